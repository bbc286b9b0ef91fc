import Derived.Test.YtibfkkjkahpobaaMx15
import Derived.Test.YtibfkkjkahpobaaMx25
import Derived.Test.YtibfkkjkahpobaaMx27
import Derived.Test.YtibfkkjkahpobaaMx34
set_option linter.unusedVariables false
set_option linter.unusedSimpArgs false
set_option maxHeartbeats 8000000
set_option maxRecDepth 100000
namespace Go.Proofs.Ytibfkkjkahpobaa.PDag
open Go.RowKit Go.Proofs.YtibfkkjkahpobaaW.PrintWords Go.Proofs.YtibfkkjkahpobaaW.PrintLast Go.Proofs.YtibfkkjkahpobaaW.PrintMore
attribute [local go_sem] max2_int min2_int max_two min_two max_three min_three max_four min_four
mutual
def r13_Cycles.l0 : Nat → List (S24) → List Int → List Int → Int → Option (List Int × List Int)
  | 0, _, _, _, _ => none
  | k + 1, x0, x4, x5, x6 => if x6 < (x0.length : Int) then (if 0 ≤ x6 then (if x6 < (x4.length : Int) then (r13_Cycles.l0 k x0 (x4.set (x6 : Int).toNat (-1)) x5 (wrap64 (x6 + 1))) else (none)) else (none)) else ((r13_Heights.f k x0).bind fun t630 => ((r13_Urges.f k x0).bind fun t633 => ((r13_Edges.f k x0).bind fun t636 => (r13_Cycles.l1 k x0 x4 x5 t630 t633 t636 (x0.length : Int) 0))))
def r13_Cycles.l1 : Nat → List (S24) → List Int → List Int → List Int → List Int → List (S51) → Int → Int → Option (List Int × List Int)
  | 0, _, _, _, _, _, _, _, _ => none
  | k + 1, x0, x4, x5, x7, x8, x9, x10, x11 => if x10 > 0 then (r13_Cycles.l2 k x0 x4 x5 x7 x8 x9 x10 x11 0) else (some (x4, x5))
def r13_Cycles.l2 : Nat → List (S24) → List Int → List Int → List Int → List Int → List (S51) → Int → Int → Int → Option (List Int × List Int)
  | 0, _, _, _, _, _, _, _, _, _ => none
  | k + 1, x0, x4, x5, x7, x8, x9, x10, x11, x12 => if x12 < 4 then (r13_Cycles.l3 k x0 x4 x5 x7 x8 x9 x10 x11 x12 (-1) 0) else (r13_Cycles.l1 k x0 x4 x5 x7 x8 x9 x10 (wrap64 (x11 + 1)))
def r13_Cycles.l3 : Nat → List (S24) → List Int → List Int → List Int → List Int → List (S51) → Int → Int → Int → Int → Int → Option (List Int × List Int)
  | 0, _, _, _, _, _, _, _, _, _, _, _ => none
  | k + 1, x0, x4, x5, x7, x8, x9, x10, x11, x12, x13, x14 => if x14 < (x0.length : Int) then (if 0 ≤ x14 then (if x14 < (x4.length : Int) then (if (rd x4 x14) ≥ 0 then (r13_Cycles.j4 k x0 x4 x5 x7 x8 x9 x10 x11 x12 x13 x14 true) else ((r3_May.f k ((q24 x0 x14).f0) x12).bind fun t641 => (if t641 = true then ((r13_ready.f k x9 x4 x14 x11).bind fun t642 => (r13_Cycles.j4 k x0 x4 x5 x7 x8 x9 x10 x11 x12 x13 x14 (!t642))) else (r13_Cycles.j4 k x0 x4 x5 x7 x8 x9 x10 x11 x12 x13 x14 true)))) else (none)) else (none)) else (if x13 ≥ 0 then (if 0 ≤ x13 then (if x13 < (x4.length : Int) then (if x13 < (x5.length : Int) then (r13_Cycles.l2 k x0 (x4.set (x13 : Int).toNat x11) (x5.set (x13 : Int).toNat x12) x7 x8 x9 (wrap64 (x10 - 1)) x11 (wrap64 (x12 + 1))) else (none)) else (none)) else (none)) else (r13_Cycles.l2 k x0 x4 x5 x7 x8 x9 x10 x11 (wrap64 (x12 + 1))))
def r13_Cycles.j4 : Nat → List (S24) → List Int → List Int → List Int → List Int → List (S51) → Int → Int → Int → Int → Int → Bool → Option (List Int × List Int)
  | 0, _, _, _, _, _, _, _, _, _, _, _, _ => none
  | k + 1, x0, x4, x5, x7, x8, x9, x10, x11, x12, x13, x14, x74 => if x74 = true then (r13_Cycles.l3 k x0 x4 x5 x7 x8 x9 x10 x11 x12 x13 (wrap64 (x14 + 1))) else (if x13 < 0 then (r13_Cycles.j5 k x0 x4 x5 x7 x8 x9 x10 x11 x12 x13 x14 true) else (if 0 ≤ x14 then (if x14 < (x8.length : Int) then (if 0 ≤ x13 then (if x13 < (x8.length : Int) then (if (rd x8 x14) < (rd x8 x13) then (r13_Cycles.j5 k x0 x4 x5 x7 x8 x9 x10 x11 x12 x13 x14 true) else (if (rd x8 x14) = (rd x8 x13) then (if x14 < (x7.length : Int) then (if x13 < (x7.length : Int) then (r13_Cycles.j5 k x0 x4 x5 x7 x8 x9 x10 x11 x12 x13 x14 (decide ((rd x7 x14) > (rd x7 x13)))) else (none)) else (none)) else (r13_Cycles.j5 k x0 x4 x5 x7 x8 x9 x10 x11 x12 x13 x14 false))) else (none)) else (none)) else (none)) else (none)))
def r13_Cycles.j5 : Nat → List (S24) → List Int → List Int → List Int → List Int → List (S51) → Int → Int → Int → Int → Int → Bool → Option (List Int × List Int)
  | 0, _, _, _, _, _, _, _, _, _, _, _, _ => none
  | k + 1, x0, x4, x5, x7, x8, x9, x10, x11, x12, x13, x14, x109 => if x109 = true then (r13_Cycles.l3 k x0 x4 x5 x7 x8 x9 x10 x11 x12 x14 (wrap64 (x14 + 1))) else (r13_Cycles.l3 k x0 x4 x5 x7 x8 x9 x10 x11 x12 x13 (wrap64 (x14 + 1)))
end
def r13_Cycles.f (k : Nat) (l0 : List (S24)) : Option (List Int × List Int) := if 0 ≤ (l0.length : Int) then (if ((l0.length : Int) : Int).toNat ≤ 35184372088832 then (r13_Cycles.l0 k l0 (List.replicate ((l0.length : Int) : Int).toNat 0) (List.replicate ((l0.length : Int) : Int).toNat 0) 0) else (none)) else (none)
def r13_Cycles.T1 : Bool × List (List Nat × List Nat) := (true, [([], []), ([0], [0]), ([1, 1], [1]), ([], []), ([3], [3]), ([4, 4], [4]), ([2, 0, 1, 2], [2]), ([5, 6, 0, 1, 2, 3, 4, 5, 6], [5])])
def r13_Cycles.B1 : List Nat := [0, 1, 3, 0, 8, 24, 7, 127]
theorem r13_Cycles.tab1 : rtab .any (opsOf Try.f74 1) = r13_Cycles.T1 := by kernel_rfl
theorem r13_Cycles.bits1 : waitsOk r13_Cycles.T1.2 r13_Cycles.B1 = true := by kernel_rfl
def r13_Cycles.T19 : Bool × List (List Nat × List Nat) := (true, [([], []), ([0], [0]), ([1], [1]), ([2], [2]), ([2], [2]), ([3, 4, 2], [2, 3, 4]), ([5, 2], [2, 5]), ([2], [2]), ([2], [2]), ([7, 8, 2], [2, 7, 8]), ([9, 2], [2, 9]), ([6, 10, 2], [2, 6, 10]), ([2, 11], [2, 11]), ([12, 2], [12]), ([13], [13]), ([13], [13]), ([14, 15, 13], [13, 14, 15]), ([16, 13], [13, 16]), ([13], [13]), ([13], [13]), ([18, 19, 13], [13, 18, 19]), ([20, 13], [13, 20]), ([17, 21, 13], [13, 17, 21]), ([22, 13, 13], [13, 22]), ([23], [23]), ([23], [23]), ([24, 25, 23], [23, 24, 25]), ([26, 23], [23, 26]), ([23], [23]), ([23], [23]), ([28, 29, 23], [23, 28, 29]), ([30, 23], [23, 30]), ([27, 31, 23], [23, 27, 31]), ([23, 32, 13], [13, 23, 32]), ([13, 33], [13, 33])])
def r13_Cycles.B19 : List Nat := [0, 1, 3, 7, 7, 31, 63, 7, 7, 391, 903, 2047, 4095, 8191, 16383, 16383, 65535, 131071, 16383, 16383, 802815, 1851391, 4194303, 8388607, 16777215, 16777215, 67108863, 134217727, 16777215, 16777215, 822083583, 1895825407, 4294967295, 8589934591, 17179869183]
theorem r13_Cycles.tab19 : rtab .any (opsOf Try.f74 19) = r13_Cycles.T19 := by kernel_rfl
theorem r13_Cycles.bits19 : waitsOk r13_Cycles.T19.2 r13_Cycles.B19 = true := by kernel_rfl
theorem r13_Cycles.calls (k : Nat) (A0 : Option Addr) (c0 : Nat) (l0 : List (S24)) (r1 : List Int) (r2 : List Int) (w : World) (hr0 : Kd.C k24 w A0 l0.length l0) (hc0 : l0.length ≤ c0) (h : r13_Cycles.f k l0 = some (r1, r2)) :
    Calls Try.prog 74 #[.slice A0 l0.length c0] w fun e w' => ∃ v0_ v1_ : Value, e = .returned (.tuple #[v0_, v1_]) ∧ Kd.R (Kd.int .i64) 3 w' w.heap.size (fun k_ => some k_ ≠ (v1_ : Value).ownBlock) v0_ r1 ∧ Kd.R (Kd.int .i64) 3 w' w.heap.size (fun k_ => some k_ ≠ (v0_ : Value).ownBlock) v1_ r2 ∧ Below w.heap.size w w' := by
 have HR0 := aM_ hr0
 have HC0 := aM_ hc0
 clear hr0 hc0
 have HB := aM_ (Below.refl w.heap.size w)
 have H : (if 0 ≤ (l0.length : Int) then (if ((l0.length : Int) : Int).toNat ≤ 35184372088832 then (r13_Cycles.l0 k l0 (List.replicate ((l0.length : Int) : Int).toNat 0) (List.replicate ((l0.length : Int) : Int).toNat 0) 0) else (none)) else (none)) = some (r1, r2) := h
 clear h
 by_cases c2 : 0 ≤ (l0.length : Int)
 ·rw [if_pos c2] at H
  have c2b0 := eq_true c2
  have c2b1 := dE_ c2
  clear c2
  by_cases c3 : ((l0.length : Int) : Int).toNat ≤ 35184372088832
  ·rw [if_pos c3] at H
   have c3b0 := eq_true c3
   have c3b1 := dE_ c3
   clear c3
   obtain ⟨y623, hy623⟩ : ∃ y_ : List Int, y_ = (List.replicate ((l0.length : Int) : Int).toNat 0) := ⟨_, rfl⟩
   replace H : (r13_Cycles.l0 k l0 y623 (List.replicate ((l0.length : Int) : Int).toNat 0) 0) = some (r1, r2) := by first | (rw [hy623]; with_reducible exact H) | (have H2_ := (Option.bind_some _ _).symm.trans H; rw [hy623]; with_reducible exact H2_) | (have H2_ := (Option.bind_some _ _).symm.trans H; with_reducible exact H2_) | with_reducible exact H | (rw [hy623]; exact H) | exact H
   have Ny623 := aM_ hy623
   clear hy623
   obtain ⟨y626, hy626⟩ : ∃ y_ : List Int, y_ = (List.replicate ((l0.length : Int) : Int).toNat 0) := ⟨_, rfl⟩
   replace H : (r13_Cycles.l0 k l0 y623 y626 0) = some (r1, r2) := by first | (rw [hy626]; with_reducible exact H) | (have H2_ := (Option.bind_some _ _).symm.trans H; rw [hy626]; with_reducible exact H2_) | (have H2_ := (Option.bind_some _ _).symm.trans H; with_reducible exact H2_) | with_reducible exact H | (rw [hy626]; exact H) | exact H
   have Ny626 := aM_ hy626
   clear hy626
   replace H := aM_ H
   go_enter Try.func74, Try.ntmps74
   try go_wp2
   replace HB := aM_ (b1_ HB.out)
   refine start_ (n := 8) (S := fun w' => True) (ds := []) #[false, false, false, false, false, false, false, false] (by kernel_rfl) rfl (by kernel_rfl) trivial (fun hHeld => ?_); refine with_tabW r13_Cycles.tab1 r13_Cycles.bits1 (fun HT_ HW_ => ?_)
   generalize w.drew = w4 at HB hHeld ⊢
   refine seq_ (k := 4) [(0, some 15, false), (1, some 16, false), (3, some 18, false), (4, some 19, false)] #[true, true, false, true, true, false, false, false] rfl (seq_of HT_.out HW_.out (by kernel_rfl)) (fun _ _ _ _ _ h => h) hHeld ?_
   repeat (first | (refine SeqOn.pure (v := ?_) (a' := ?_) rfl rfl (Or.inl ⟨by kernel_rfl, ?_⟩) ?_ ?_; rotate_left 2; (focus (intro w'; go_simp; with_reducible rfl)); (focus exact pU_)))
   refine SeqOn.nil ?_
   refine join_ (σ := Value × Value) 1 #[true, true, true, true, true, true, true, false] (fun s_ => [(17, s_.1), (20, s_.2), (4, s_.1)]) (fun s_ w' => (Kd.R (Kd.int .i64) 3 w' w.heap.size (fun k_ => some k_ ≠ (s_.2 : Value).ownBlock) s_.1 y623) ∧ (Kd.R (Kd.int .i64) 3 w' w.heap.size (fun k_ => some k_ ≠ (s_.1 : Value).ownBlock) s_.2 y626) ∧ (Below w.heap.size w w')) ?_ ?_
   rotate_left
   ·intro hCont
    refine two_ (i := 2) (j := 5) (Ni := some 17) (Nj := some 20) #[true, true, true, true, true, false, false, false] #[true, true, false, true, true, true, false, false] rfl rfl rfl rfl (two_of HT_.out (by kernel_rfl)) (by decide) (by decide) (fun K hK => ?_) (fun K hK => ?_)
    ·skip
     refine Kd.R_make_step (Kd.int .i64) _ 3 (by rfl) (N := 17) rfl 25 _ _ rfl (l0.length : Int) rfl rfl Try.underlying25 (.int .i64 0) 8 info3 rfl (by decide) (by omega) 0 (ok := fun _ => True) (okp := fun _ => True) rfl (fun _ hk => hk) trivial (oD_) (Nat.le_trans (Nat.mul_le_mul_right _ (oD_ : (l0.length : Int).toNat ≤ 35184372088832)) (by omega)) (Below.refl _ _) (Nat.le_refl _) ?_
     intro v624 w5 ho6 hb hg_ hnew_
     clear hg_ hnew_
     (first | rw [← Ny623.out] at ho6 | (simp only [Int.reduceToNat] at ho6; rw [← Ny623.out] at ho6))
     replace HO625 := aM_ (Kd.R_lower ho6 (bY_ (bl_ HB)))
     replace HB := aM_ (bT_ (bl_ HB) hb)
     clear hb ho6
     refine hK.out _ _ trivial (fun hHeld => ?_)
     clear hK K
     refine norm_ (a' := ?_) ?_ ?_
     rotate_left
     ·show Act.put _ (some 17) _ = _
      simp only [Act.put, List.setIfInBounds_toArray, List.set_cons_zero, List.set_cons_succ, i64_w, i32_w]
      rfl
     refine pure_ (i := 6) (N := some 4) (v := ?_) (a' := ?_) #[true, true, true, true, true, false, true, false] rfl rfl (any_of HT_.out (by kernel_rfl)) (fun _ _ _ h => h) (Or.inl ⟨by rfl, ?_⟩) ?_ ?_
     rotate_left
     ·intro w'
      go_simp
      with_reducible rfl
     rotate_left
     ·simp only [Act.put, List.setIfInBounds_toArray, List.set_cons_zero, List.set_cons_succ, i64_w, i32_w]
      rfl
     refine one_ (i := 5) (N := some 20) #[true, true, true, true, true, true, true, false] rfl rfl (one_of HT_.out (by kernel_rfl)) (by decide) (fun K hK => ?_)
     refine Kd.R_make_step (Kd.int .i64) _ 3 (by rfl) (N := 20) rfl 25 _ _ rfl (l0.length : Int) rfl rfl Try.underlying25 (.int .i64 0) 8 info3 rfl (by decide) (by omega) 0 (ok := fun _ => True) (okp := fun _ => True) rfl (fun _ hk => hk) trivial (oD_) (Nat.le_trans (Nat.mul_le_mul_right _ (oD_ : (l0.length : Int).toNat ≤ 35184372088832)) (by omega)) (Below.refl _ _) (Nat.le_refl _) ?_
     intro v627 w7 ho8 hb hg_ hnew_
     clear hg_ hnew_
     (first | rw [← Ny626.out] at ho8 | (simp only [Int.reduceToNat] at ho8; rw [← Ny626.out] at ho8))
     replace HO628 := aM_ (Kd.R_lower (Kd.R_new' ho8 (Kd.R_lt (rR_ HO625))) (bY_ (bl_ HB)))
     replace HO625 := aM_ (Kd.R_elder' (rR_ HO625) (Kd.R_base ho8) hb)
     replace HB := aM_ (bT_ (bl_ HB) hb)
     clear hb ho8
     refine hK.out _ _ trivial (fun hHeld => ?_)
     clear hK K
     refine norm_ (a' := ?_) ?_ ?_
     rotate_left
     ·show Act.put _ (some 20) _ = _
      simp only [Act.put, List.setIfInBounds_toArray, List.set_cons_zero, List.set_cons_succ, i64_w, i32_w]
      rfl
     exact norm_ (by simp only [putAll, Act.put, List.setIfInBounds_toArray, List.set_cons_zero, List.set_cons_succ]) (hCont (v624, v627) _ ⟨(by (with_reducible repeat (first | apply Kd.R_alloc | apply Kd.R_drewN | apply Kd.R_drew)); exact Kd.R_mono HO625.out (fun _ hk => hk.2)), (by (with_reducible repeat (first | apply Kd.R_alloc | apply Kd.R_drewN | apply Kd.R_drew)); exact Kd.R_mono HO628.out (fun _ hk => hk.2)), (bl_ HB)⟩)
    skip
    refine Kd.R_make_step (Kd.int .i64) _ 3 (by rfl) (N := 20) rfl 25 _ _ rfl (l0.length : Int) rfl rfl Try.underlying25 (.int .i64 0) 8 info3 rfl (by decide) (by omega) 0 (ok := fun _ => True) (okp := fun _ => True) rfl (fun _ hk => hk) trivial (oD_) (Nat.le_trans (Nat.mul_le_mul_right _ (oD_ : (l0.length : Int).toNat ≤ 35184372088832)) (by omega)) (Below.refl _ _) (Nat.le_refl _) ?_
    intro v627 w5 ho6 hb hg_ hnew_
    clear hg_ hnew_
    (first | rw [← Ny626.out] at ho6 | (simp only [Int.reduceToNat] at ho6; rw [← Ny626.out] at ho6))
    replace HO628 := aM_ (Kd.R_lower ho6 (bY_ (bl_ HB)))
    replace HB := aM_ (bT_ (bl_ HB) hb)
    clear hb ho6
    refine hK.out _ _ trivial (fun hHeld => ?_)
    clear hK K
    refine norm_ (a' := ?_) ?_ ?_
    rotate_left
    ·show Act.put _ (some 20) _ = _
     simp only [Act.put, List.setIfInBounds_toArray, List.set_cons_zero, List.set_cons_succ, i64_w, i32_w]
     rfl
    refine one_ (i := 2) (N := some 17) #[true, true, true, true, true, true, false, false] rfl rfl (one_of HT_.out (by kernel_rfl)) (by decide) (fun K hK => ?_)
    refine Kd.R_make_step (Kd.int .i64) _ 3 (by rfl) (N := 17) rfl 25 _ _ rfl (l0.length : Int) rfl rfl Try.underlying25 (.int .i64 0) 8 info3 rfl (by decide) (by omega) 0 (ok := fun _ => True) (okp := fun _ => True) rfl (fun _ hk => hk) trivial (oD_) (Nat.le_trans (Nat.mul_le_mul_right _ (oD_ : (l0.length : Int).toNat ≤ 35184372088832)) (by omega)) (Below.refl _ _) (Nat.le_refl _) ?_
    intro v624 w7 ho8 hb hg_ hnew_
    clear hg_ hnew_
    (first | rw [← Ny623.out] at ho8 | (simp only [Int.reduceToNat] at ho8; rw [← Ny623.out] at ho8))
    replace HO625 := aM_ (Kd.R_lower (Kd.R_new' ho8 (Kd.R_lt (rR_ HO628))) (bY_ (bl_ HB)))
    replace HO628 := aM_ (Kd.R_elder' (rR_ HO628) (Kd.R_base ho8) hb)
    replace HB := aM_ (bT_ (bl_ HB) hb)
    clear hb ho8
    refine hK.out _ _ trivial (fun hHeld => ?_)
    clear hK K
    refine norm_ (a' := ?_) ?_ ?_
    rotate_left
    ·show Act.put _ (some 17) _ = _
     simp only [Act.put, List.setIfInBounds_toArray, List.set_cons_zero, List.set_cons_succ, i64_w, i32_w]
     rfl
    refine pure_ (i := 6) (N := some 4) (v := ?_) (a' := ?_) #[true, true, true, true, true, true, true, false] rfl rfl (any_of HT_.out (by kernel_rfl)) (fun _ _ _ h => h) (Or.inl ⟨by rfl, ?_⟩) ?_ ?_
    rotate_left
    ·intro w'
     go_simp
     with_reducible rfl
    rotate_left
    ·simp only [Act.put, List.setIfInBounds_toArray, List.set_cons_zero, List.set_cons_succ, i64_w, i32_w]
     rfl
    exact norm_ (by simp only [putAll, Act.put, List.setIfInBounds_toArray, List.set_cons_zero, List.set_cons_succ]) (hCont (v624, v627) _ ⟨(by (with_reducible repeat (first | apply Kd.R_alloc | apply Kd.R_drewN | apply Kd.R_drew)); exact Kd.R_mono HO625.out (fun _ hk => hk.2)), (by (with_reducible repeat (first | apply Kd.R_alloc | apply Kd.R_drewN | apply Kd.R_drew)); exact Kd.R_mono HO628.out (fun _ hk => hk.2)), (bl_ HB)⟩)
   rintro ⟨v624, v627⟩ w9 ⟨h0_, h1_, h2_⟩
   replace HO625 : As_ (Kd.R (Kd.int .i64) 3 w9 w.heap.size (fun k_ => some k_ ≠ (v627 : Value).ownBlock) v624 y623) := ⟨h0_⟩
   replace HO628 : As_ (Kd.R (Kd.int .i64) 3 w9 w.heap.size (fun k_ => some k_ ≠ (v624 : Value).ownBlock) v627 y626) := ⟨h1_⟩
   replace HB : As_ (Below w.heap.size w w9) := ⟨h2_⟩
   clear h0_ h1_ h2_
   have hHeld := trivial
   refine norm_ (a' := ?_) ?_ ?_
   rotate_left
   ·simp only [putAll, Act.put, List.setIfInBounds_toArray, List.set_cons_zero, List.set_cons_succ]
    rfl
   refine pure_ (i := 7) (N := some 5) (v := ?_) (a' := ?_) #[true, true, true, true, true, true, true, true] rfl rfl (any_of HT_.out (by kernel_rfl)) (fun _ _ _ h => h) (Or.inl ⟨by rfl, ?_⟩) ?_ ?_
   rotate_left
   ·intro w'
    go_simp
    with_reducible rfl
   rotate_left
   ·simp only [Act.put, List.setIfInBounds_toArray, List.set_cons_zero, List.set_cons_succ, i64_w, i32_w]
    rfl
   refine done_ (done_of HT_.out (by kernel_rfl)) ?_
   try go_wp2
   go_loopg [6] k (fun kq v6 w' => ∃ (x4_1 : List Int) (x6_1 : Int), v6 = .int .i64 x6_1 ∧ As_ (r13_Cycles.l0 kq l0 x4_1 y626 x6_1 = some (r1, r2)) ∧ As_ (kq ≤ k) ∧ As_ (Kd.R (Kd.int .i64) 3 w' w.heap.size (fun k_ => some k_ ≠ (v627 : Value).ownBlock) v624 x4_1) ∧ As_ (Kd.R (Kd.int .i64) 3 w' w.heap.size (fun k_ => some k_ ≠ (v624 : Value).ownBlock) v627 y626) ∧ As_ (Below w.heap.size w w'))
   case atStart => exact ⟨(y623), (0), eQ_, H, ⟨Nat.le_refl _⟩, ⟨rR_ HO625⟩, ⟨rR_ HO628⟩, ⟨bl_ HB⟩⟩
   case round =>
    clear H
    obtain ⟨x4_1, x6_1, rfl, HA, HK1, HO_4, HO_5, HB⟩ := hrel
    cases gk with
    | zero => exact absurd HA.out (by simp [r13_Cycles.l0])
    | succ k1 =>
     have H := HA.out
     clear HA
     simp only [r13_Cycles.l0] at H
     by_cases c10 : x6_1 < (l0.length : Int)
     ·rw [if_pos c10] at H
      have c10b0 := dE_ c10
      clear c10
      by_cases c11 : 0 ≤ x6_1
      ·rw [if_pos c11] at H
       have c11b0 := dE_ c11
       clear c11
       by_cases c12 : x6_1 < (x4_1.length : Int)
       ·rw [if_pos c12] at H
        have c12b0 := dE_ c12
        clear c12
        obtain ⟨y629, hy629⟩ : ∃ y_ : List Int, y_ = (x4_1.set (x6_1 : Int).toNat (-1)) := ⟨_, rfl⟩
        replace H : (r13_Cycles.l0 k1 l0 y629 y626 (wrap64 (x6_1 + 1))) = some (r1, r2) := by first | (rw [hy629]; with_reducible exact H) | (have H2_ := (Option.bind_some _ _).symm.trans H; rw [hy629]; with_reducible exact H2_) | (have H2_ := (Option.bind_some _ _).symm.trans H; with_reducible exact H2_) | with_reducible exact H | (rw [hy629]; exact H) | exact H
        have Ny629 := aM_ hy629
        clear hy629
        replace H := aM_ H
        have p13 : 0 ≤ (x6_1 : Int) := oD_
        have q13 : (x6_1 : Int) < ((x4_1.length : Int) : Int) := oD_
        obtain ⟨go13, co13, eo13, gb13, gl13, cl13, HG13⟩ := Kd.R_form HO_4.out (by omega)
        (first | cases eo13 | (injection eo13 with ea_ en_ ec_; (first | subst ea_ | (injection ea_ with ea_; subst ea_)); subst ec_; clear en_))
        have GB13 := aM_ gb13
        have GG13 := aM_ HG13
        clear gb13 gl13 HG13
        obtain ⟨hx13_0, hf13_0⟩ := Kd.R_celln 0 HO_4.out (x6_1 : Int) p13 q13
        replace p13 := eq_true p13
        replace q13 := eq_true q13
        have HP14 := Kd.R_putg HO_4.out (x6_1 : Int) (-1)
        go_wp2_with (first | ((with_reducible refine gate_store (t := 3) (p := 29) rfl ?_); refine store_event (t := 3) (p := 29) (v := ?vo_w15) (w1 := (wr.setCell ⟨go13, (x6_1 : Int).toNat, none⟩ (.int .i64 (-1)))) ?hg ?ho ?hn ?hr ?_; (case ho => rfl); (case hg => rfl); (case hn => rfl); (case hr => first | (go_simp; done) | (go_simp; rfl)); intro w15 hw; have hg : wr.grownBy w15 (some go13) := (by rw [hw]; exact HP14.2); have hp_ : Kd.R (Kd.int .i64) 3 w15 w.heap.size (fun k_ => some k_ ≠ (v627 : Value).ownBlock) (.slice (some ⟨go13, 0, none⟩) x4_1.length co13) y629 := (by rw [hw, Ny629.out]; exact HP14.1); clear HP14; replace HO_4 := aM_ (hp_); replace HO_5 := aM_ (Kd.R_after (v := (.slice (some ⟨go13, 0, none⟩) x4_1.length co13)) (v1 := (.slice (some ⟨go13, 0, none⟩) x4_1.length co13)) (ok := (fun _ => True)) (by (with_reducible repeat (first | apply Kd.R_alloc | apply Kd.R_drewN | apply Kd.R_drew)); exact Kd.R_mono HO_5.out (fun _ hk => ⟨trivial, hk⟩)) hg (.inl rfl)); replace HB := aM_ ((by rw [hw]; exact bS_ (HB.out) GB13.out : Below w.heap.size w w15)); clear hg hw hp_))
        go_roundg k1
        case measure => have := HK1.out; omega
        case rel => exact ⟨(y629), (wrap64 (x6_1 + 1)), eQ_, H, ⟨by have := HK1.out; omega⟩, ⟨rR_ HO_4⟩, ⟨by (with_reducible repeat (first | apply Kd.R_alloc | apply Kd.R_drewN | apply Kd.R_drew)); exact Kd.R_mono HO_5.out (fun _ hk => hk.2)⟩, ⟨bl_ HB⟩⟩
       rw [if_neg c12] at H
       exact absurd H (by simp)
      rw [if_neg c11] at H
      exact absurd H (by simp)
     rw [if_neg c10] at H
     have c10b0 := dF_ c10
     clear c10
     replace H := oB_ H
     obtain ⟨t630, A16, H⟩ := H
     replace H := oB_ H
     obtain ⟨t633, A17, H⟩ := H
     replace H := oB_ H
     obtain ⟨t636, A18, H⟩ := H
     replace H := aM_ H
     go_wp2_with (first | ((with_reducible refine gC_ (f := 25) rfl ?_); refine gL_ (some 31) Try.func25 #[.slice A0 l0.length c0] rfl ?_; (with_reducible refine (r13_Heights.calls k1 _ _ l0 t630 _ ?side1 ?side2 A16.out).mono ?_); (case side1 => exact rC_ (Kd.C_below HR0.out HB.out)); (case side2 => exact HC0.out); rintro e w19 ⟨v631, rfl, ho0, hb⟩; refine ⟨_, rfl, ?_⟩; replace HO632 := aM_ (Kd.R_lower (Kd.R_new' (Kd.R_new' ho0 (Kd.R_lt (rR_ HO_4))) (Kd.R_lt (rR_ HO_5))) (bY_ (bl_ HB))); replace HO_4 := aM_ (Kd.R_elder' (rR_ HO_4) (Kd.R_base ho0) hb); replace HO_5 := aM_ (Kd.R_elder' (rR_ HO_5) (Kd.R_base ho0) hb); replace HB := aM_ (bT_ (bl_ HB) hb); (try clear ho0)) | ((with_reducible refine gC_ (f := 33) rfl ?_); refine gL_ (some 33) Try.func33 #[.slice A0 l0.length c0] rfl ?_; (with_reducible refine (r13_Urges.calls k1 _ _ l0 t633 _ ?side1 ?side2 A17.out).mono ?_); (case side1 => exact rC_ (Kd.C_below HR0.out HB.out)); (case side2 => exact HC0.out); rintro e w20 ⟨v634, rfl, ho0, hb⟩; refine ⟨_, rfl, ?_⟩; replace HO635 := aM_ (Kd.R_lower (Kd.R_new' (Kd.R_new' (Kd.R_new' ho0 (Kd.R_lt (rR_ HO_4))) (Kd.R_lt (rR_ HO_5))) (Kd.R_lt (rR_ HO632))) (bY_ (bl_ HB))); replace HO_4 := aM_ (Kd.R_elder' (rR_ HO_4) (Kd.R_base ho0) hb); replace HO_5 := aM_ (Kd.R_elder' (rR_ HO_5) (Kd.R_base ho0) hb); replace HO632 := aM_ (Kd.R_elder' (rR_ HO632) (Kd.R_base ho0) hb); replace HB := aM_ (bT_ (bl_ HB) hb); (try clear ho0)) | ((with_reducible refine gC_ (f := 23) rfl ?_); refine gL_ (some 35) Try.func23 #[.slice A0 l0.length c0] rfl ?_; (with_reducible refine (r13_Edges.calls k1 _ _ l0 t636 _ ?side1 ?side2 A18.out).mono ?_); (case side1 => exact rC_ (Kd.C_below HR0.out HB.out)); (case side2 => exact HC0.out); rintro e w21 ⟨v637, rfl, ho0, hb⟩; refine ⟨_, rfl, ?_⟩; replace HO_4 := aM_ (Kd.R_below (rR_ HO_4) hb); replace HO_5 := aM_ (Kd.R_below (rR_ HO_5) hb); replace HO632 := aM_ (Kd.R_below (rR_ HO632) hb); replace HO635 := aM_ (Kd.R_below (rR_ HO635) hb); replace HO638 := aM_ (Kd.R_lower ho0 (bY_ (bl_ HB))); replace HB := aM_ (bT_ (bl_ HB) hb); (try clear ho0)))
     go_loopg [10, 11] k1 (fun kq v10 v11 w' => ∃ (x4_2 : List Int) (x5_2 : List Int) (x10_2 : Int) (x11_2 : Int), v10 = .int .i64 x10_2 ∧ v11 = .int .i64 x11_2 ∧ As_ (r13_Cycles.l1 kq l0 x4_2 x5_2 t630 t633 t636 x10_2 x11_2 = some (r1, r2)) ∧ As_ (kq ≤ k1) ∧ As_ (Kd.R (Kd.int .i64) 3 w' w.heap.size (fun k_ => some k_ ≠ (v627 : Value).ownBlock ∧ some k_ ≠ (v631 : Value).ownBlock ∧ some k_ ≠ (v634 : Value).ownBlock) v624 x4_2) ∧ As_ (Kd.R (Kd.int .i64) 3 w' w.heap.size (fun k_ => some k_ ≠ (v624 : Value).ownBlock ∧ some k_ ≠ (v631 : Value).ownBlock ∧ some k_ ≠ (v634 : Value).ownBlock) v627 x5_2) ∧ As_ (Kd.R (Kd.int .i64) 3 w' w.heap.size (fun k_ => some k_ ≠ (v624 : Value).ownBlock ∧ some k_ ≠ (v627 : Value).ownBlock ∧ some k_ ≠ (v634 : Value).ownBlock) v631 t630) ∧ As_ (Kd.R (Kd.int .i64) 3 w' w.heap.size (fun k_ => some k_ ≠ (v624 : Value).ownBlock ∧ some k_ ≠ (v627 : Value).ownBlock ∧ some k_ ≠ (v631 : Value).ownBlock) v634 t633) ∧ As_ (Kd.R k51 51 w' w.heap.size (fun _ => True) v637 t636) ∧ As_ (Below w.heap.size w w'))
     case atStart => exact ⟨(x4_1), (y626), ((l0.length : Int)), (0), eQ_, eQ_, H, ⟨Nat.le_refl _⟩, ⟨by (with_reducible repeat (first | apply Kd.R_alloc | apply Kd.R_drewN | apply Kd.R_drew)); exact Kd.R_mono HO_4.out (fun _ hk => ⟨hk.1.1, ⟨hk.1.2, hk.2⟩⟩)⟩, ⟨by (with_reducible repeat (first | apply Kd.R_alloc | apply Kd.R_drewN | apply Kd.R_drew)); exact Kd.R_mono HO_5.out (fun _ hk => ⟨hk.1.1, ⟨hk.1.2, hk.2⟩⟩)⟩, ⟨by (with_reducible repeat (first | apply Kd.R_alloc | apply Kd.R_drewN | apply Kd.R_drew)); exact Kd.R_mono HO632.out (fun _ hk => ⟨hk.1.1.2, ⟨hk.1.2, hk.2⟩⟩)⟩, ⟨by (with_reducible repeat (first | apply Kd.R_alloc | apply Kd.R_drewN | apply Kd.R_drew)); exact Kd.R_mono HO635.out (fun _ hk => ⟨hk.1.1.2, ⟨hk.1.2, hk.2⟩⟩)⟩, ⟨rR_ HO638⟩, ⟨bl_ HB⟩⟩
     case round =>
      clear H
      obtain ⟨x4_2, x5_2, x10_2, x11_2, rfl, rfl, HA, HK2, HO_4, HO_5, HO_7, HO_8, HO_9, HB⟩ := hrel
      cases gk with
      | zero => exact absurd HA.out (by simp [r13_Cycles.l1])
      | succ k2 =>
       have H := HA.out
       clear HA
       simp only [r13_Cycles.l1] at H
       by_cases c22 : x10_2 > 0
       ·rw [if_pos c22] at H
        have c22b0 := dE_ c22
        clear c22
        replace H := aM_ H
        go_wp2
        go_loopg [10, 12] k2 (fun kq v10 v12 w' => ∃ (x4_3 : List Int) (x5_3 : List Int) (x10_3 : Int) (x12_3 : Int), v10 = .int .i64 x10_3 ∧ v12 = .int .i64 x12_3 ∧ As_ (r13_Cycles.l2 kq l0 x4_3 x5_3 t630 t633 t636 x10_3 x11_2 x12_3 = some (r1, r2)) ∧ As_ (kq ≤ k2) ∧ As_ (Kd.R (Kd.int .i64) 3 w' w.heap.size (fun k_ => some k_ ≠ (v627 : Value).ownBlock ∧ some k_ ≠ (v631 : Value).ownBlock ∧ some k_ ≠ (v634 : Value).ownBlock) v624 x4_3) ∧ As_ (Kd.R (Kd.int .i64) 3 w' w.heap.size (fun k_ => some k_ ≠ (v624 : Value).ownBlock ∧ some k_ ≠ (v631 : Value).ownBlock ∧ some k_ ≠ (v634 : Value).ownBlock) v627 x5_3) ∧ As_ (Kd.R (Kd.int .i64) 3 w' w.heap.size (fun k_ => some k_ ≠ (v624 : Value).ownBlock ∧ some k_ ≠ (v627 : Value).ownBlock ∧ some k_ ≠ (v634 : Value).ownBlock) v631 t630) ∧ As_ (Kd.R (Kd.int .i64) 3 w' w.heap.size (fun k_ => some k_ ≠ (v624 : Value).ownBlock ∧ some k_ ≠ (v627 : Value).ownBlock ∧ some k_ ≠ (v631 : Value).ownBlock) v634 t633) ∧ As_ (Kd.R k51 51 w' w.heap.size (fun _ => True) v637 t636) ∧ As_ (Below w.heap.size w w'))
        case atStart => exact ⟨(x4_2), (x5_2), (x10_2), (0), eQ_, eQ_, H, ⟨Nat.le_refl _⟩, ⟨rR_ HO_4⟩, ⟨rR_ HO_5⟩, ⟨rR_ HO_7⟩, ⟨rR_ HO_8⟩, ⟨rR_ HO_9⟩, ⟨bl_ HB⟩⟩
        case round =>
         clear H
         obtain ⟨x4_3, x5_3, x10_3, x12_3, rfl, rfl, HA, HK3, HO_4, HO_5, HO_7, HO_8, HO_9, HB⟩ := hrel
         cases gk with
         | zero => exact absurd HA.out (by simp [r13_Cycles.l2])
         | succ k3 =>
          have H := HA.out
          clear HA
          simp only [r13_Cycles.l2] at H
          by_cases c23 : x12_3 < 4
          ·rw [if_pos c23] at H
           have c23b0 := dE_ c23
           clear c23
           replace H := aM_ H
           go_wp2
           go_loopg [13, 14] k3 (fun kq v13 v14 w' => ∃ (x13_4 : Int) (x14_4 : Int), v13 = .int .i64 x13_4 ∧ v14 = .int .i64 x14_4 ∧ As_ (r13_Cycles.l3 kq l0 x4_3 x5_3 t630 t633 t636 x10_3 x11_2 x12_3 x13_4 x14_4 = some (r1, r2)) ∧ As_ (kq ≤ k3) ∧ As_ (Kd.R (Kd.int .i64) 3 w' w.heap.size (fun k_ => some k_ ≠ (v627 : Value).ownBlock ∧ some k_ ≠ (v631 : Value).ownBlock ∧ some k_ ≠ (v634 : Value).ownBlock) v624 x4_3) ∧ As_ (Kd.R (Kd.int .i64) 3 w' w.heap.size (fun k_ => some k_ ≠ (v624 : Value).ownBlock ∧ some k_ ≠ (v631 : Value).ownBlock ∧ some k_ ≠ (v634 : Value).ownBlock) v627 x5_3) ∧ As_ (Kd.R (Kd.int .i64) 3 w' w.heap.size (fun k_ => some k_ ≠ (v624 : Value).ownBlock ∧ some k_ ≠ (v627 : Value).ownBlock ∧ some k_ ≠ (v634 : Value).ownBlock) v631 t630) ∧ As_ (Kd.R (Kd.int .i64) 3 w' w.heap.size (fun k_ => some k_ ≠ (v624 : Value).ownBlock ∧ some k_ ≠ (v627 : Value).ownBlock ∧ some k_ ≠ (v631 : Value).ownBlock) v634 t633) ∧ As_ (Kd.R k51 51 w' w.heap.size (fun _ => True) v637 t636) ∧ As_ (Below w.heap.size w w'))
           case atStart => exact ⟨((-1)), (0), eQ_, eQ_, H, ⟨Nat.le_refl _⟩, ⟨rR_ HO_4⟩, ⟨rR_ HO_5⟩, ⟨rR_ HO_7⟩, ⟨rR_ HO_8⟩, ⟨rR_ HO_9⟩, ⟨bl_ HB⟩⟩
           case round =>
            clear H
            obtain ⟨x13_4, x14_4, rfl, rfl, HA, HK4, HO_4, HO_5, HO_7, HO_8, HO_9, HB⟩ := hrel
            cases gk with
            | zero => exact absurd HA.out (by simp [r13_Cycles.l3])
            | succ k4 =>
             have H := HA.out
             clear HA
             simp only [r13_Cycles.l3] at H
             by_cases c24 : x14_4 < (l0.length : Int)
             ·rw [if_pos c24] at H
              have c24b0 := dE_ c24
              clear c24
              have HC25 := aM_ H
              clear H
              go_upto_region 18 with (fail)
              go_cut [74] (fun v74 wc => ∃ (kq : Nat) (x74_24 : Bool), v74 = .bool x74_24 ∧ As_ (r13_Cycles.j4 kq l0 x4_3 x5_3 t630 t633 t636 x10_3 x11_2 x12_3 x13_4 x14_4 x74_24 = some (r1, r2)) ∧ As_ (kq ≤ k4) ∧ As_ (Kd.R (Kd.int .i64) 3 wc w.heap.size (fun k_ => some k_ ≠ (v627 : Value).ownBlock ∧ some k_ ≠ (v631 : Value).ownBlock ∧ some k_ ≠ (v634 : Value).ownBlock) v624 x4_3) ∧ As_ (Kd.R (Kd.int .i64) 3 wc w.heap.size (fun k_ => some k_ ≠ (v624 : Value).ownBlock ∧ some k_ ≠ (v631 : Value).ownBlock ∧ some k_ ≠ (v634 : Value).ownBlock) v627 x5_3) ∧ As_ (Kd.R (Kd.int .i64) 3 wc w.heap.size (fun k_ => some k_ ≠ (v624 : Value).ownBlock ∧ some k_ ≠ (v627 : Value).ownBlock ∧ some k_ ≠ (v634 : Value).ownBlock) v631 t630) ∧ As_ (Kd.R (Kd.int .i64) 3 wc w.heap.size (fun k_ => some k_ ≠ (v624 : Value).ownBlock ∧ some k_ ≠ (v627 : Value).ownBlock ∧ some k_ ≠ (v631 : Value).ownBlock) v634 t633) ∧ As_ (Kd.R k51 51 wc w.heap.size (fun _ => True) v637 t636) ∧ As_ (Below w.heap.size w wc))
              case first =>
               have H := HC25.out
               clear HC25
               by_cases c26 : 0 ≤ x14_4
               ·rw [if_pos c26] at H
                have c26b0 := dE_ c26
                clear c26
                (first | rw [c26b0] | (simp only [i64_w, i32_w]; rw [c26b0]) | skip)
                by_cases c27 : x14_4 < (x4_3.length : Int)
                ·rw [if_pos c27] at H
                 have c27b0 := dE_ c27
                 clear c27
                 by_cases c28 : (rd x4_3 x14_4) ≥ 0
                 ·rw [if_pos c28] at H
                  have c28b0 := dE_ c28
                  clear c28
                  replace H := aM_ H
                  obtain ⟨Ao29, co29, eo29⟩ := Kd.R_slice HO_4.out
                  subst eo29
                  have p639 : 0 ≤ (x14_4 : Int) := oD_
                  have q639 : x14_4 < (x4_3.length : Int) := oD_
                  obtain ⟨ad639, e639, hx639_0⟩ := Kd.at_int (Kd.R_reads' HO_4.out).2.2 x14_4 p639 q639
                  cases e639
                  replace p639 := eq_true p639
                  replace q639 := eq_true q639
                  go_wp2
                  go_meet
                  case rel => exact ⟨_, (true), eQ_, H, ⟨by have := HK1.out; have := HK2.out; have := HK3.out; have := HK4.out; first | omega | exact Nat.le_refl _⟩, ⟨rR_ HO_4⟩, ⟨rR_ HO_5⟩, ⟨rR_ HO_7⟩, ⟨rR_ HO_8⟩, ⟨rR_ HO_9⟩, ⟨bl_ HB⟩⟩
                 rw [if_neg c28] at H
                 have c28b0 := dF_ c28
                 clear c28
                 replace H := oB_ H
                 obtain ⟨t641, A30, H⟩ := H
                 by_cases c31 : t641 = true
                 ·subst c31
                  have H1 : ((r13_ready.f k4 t636 x4_3 x14_4 x11_2).bind fun t642 => (r13_Cycles.j4 k4 l0 x4_3 x5_3 t630 t633 t636 x10_3 x11_2 x12_3 x13_4 x14_4 (!t642))) = some (r1, r2) := by rw [if_pos rfl] at H; exact H
                  clear H
                  have H := H1
                  clear H1
                  replace H := oB_ H
                  obtain ⟨t642, A32, H⟩ := H
                  replace H := aM_ H
                  obtain ⟨Ao33, co33, eo33⟩ := Kd.R_slice HO_4.out
                  subst eo33
                  have p639 : 0 ≤ (x14_4 : Int) := oD_
                  have q639 : x14_4 < (x4_3.length : Int) := oD_
                  obtain ⟨ad639, e639, hx639_0⟩ := Kd.at_int (Kd.R_reads' HO_4.out).2.2 x14_4 p639 q639
                  cases e639
                  replace p639 := eq_true p639
                  replace q639 := eq_true q639
                  have p640 : 0 ≤ (x14_4 : Int) := oD_
                  have q640 : x14_4 < (l0.length : Int) := oD_
                  obtain ⟨ad640, e640, hx640_0, hx640_1, hx640_2, hx640_3, hx640_4, hx640_5⟩ := at_T24 HR0.out x14_4 p640 q640
                  cases e640
                  replace hx640_0 := hC_ HB hx640_0
                  replace hx640_1 := hC_ HB hx640_1
                  replace hx640_2 := hC_ HB hx640_2
                  replace hx640_3 := hC_ HB hx640_3
                  replace hx640_4 := hC_ HB hx640_4
                  replace hx640_5 := hC_ HB hx640_5
                  replace p640 := eq_true p640
                  replace q640 := eq_true q640
                  go_wp2_with (first | (go_at_call 104; (with_reducible refine (r3_May.calls k4 ((q24 l0 x14_4).f0) x12_3 true _ A30.out).mono ?_); rintro e w34 ⟨rfl, hb⟩; replace HO_4 := aM_ (Kd.R_below (rR_ HO_4) hb); replace HO_5 := aM_ (Kd.R_below (rR_ HO_5) hb); replace HO_7 := aM_ (Kd.R_below (rR_ HO_7) hb); replace HO_8 := aM_ (Kd.R_below (rR_ HO_8) hb); replace HO_9 := aM_ (Kd.R_below (rR_ HO_9) hb); replace HB := aM_ (bT_ (bl_ HB) hb); obtain ⟨Ao35, co35, eo35⟩ := Kd.R_slice HO_9.out; subst eo35) | (go_at_call 105; (with_reducible refine (r13_ready.calls k4 _ _ t636 _ _ x4_3 x14_4 x11_2 t642 _ ?side1 ?side2 ?side3 ?side4 A32.out).mono ?_); (case side1 => exact rC_ (Kd.R_reads' HO_9.out).2.2); (case side2 => exact (Kd.R_reads' HO_9.out).2.1); (case side3 => exact rC_ (Kd.R_reads' HO_4.out).2.2); (case side4 => exact (Kd.R_reads' HO_4.out).2.1); rintro e w' ⟨rfl, ⟨nd, rfl⟩⟩))
                  go_meet
                  case rel => exact ⟨_, (!t642), eQ_, H, ⟨by have := HK1.out; have := HK2.out; have := HK3.out; have := HK4.out; first | omega | exact Nat.le_refl _⟩, ⟨rR_ HO_4⟩, ⟨rR_ HO_5⟩, ⟨rR_ HO_7⟩, ⟨rR_ HO_8⟩, ⟨rR_ HO_9⟩, ⟨bl_ HB⟩⟩
                 replace c31 := eF_ c31
                 subst c31
                 have H1 : (r13_Cycles.j4 k4 l0 x4_3 x5_3 t630 t633 t636 x10_3 x11_2 x12_3 x13_4 x14_4 true) = some (r1, r2) := by rw [if_neg (show ¬ (false = true) by decide)] at H; exact H
                 clear H
                 have H := H1
                 clear H1
                 replace H := aM_ H
                 obtain ⟨Ao36, co36, eo36⟩ := Kd.R_slice HO_4.out
                 subst eo36
                 have p639 : 0 ≤ (x14_4 : Int) := oD_
                 have q639 : x14_4 < (x4_3.length : Int) := oD_
                 obtain ⟨ad639, e639, hx639_0⟩ := Kd.at_int (Kd.R_reads' HO_4.out).2.2 x14_4 p639 q639
                 cases e639
                 replace p639 := eq_true p639
                 replace q639 := eq_true q639
                 have p640 : 0 ≤ (x14_4 : Int) := oD_
                 have q640 : x14_4 < (l0.length : Int) := oD_
                 obtain ⟨ad640, e640, hx640_0, hx640_1, hx640_2, hx640_3, hx640_4, hx640_5⟩ := at_T24 HR0.out x14_4 p640 q640
                 cases e640
                 replace hx640_0 := hC_ HB hx640_0
                 replace hx640_1 := hC_ HB hx640_1
                 replace hx640_2 := hC_ HB hx640_2
                 replace hx640_3 := hC_ HB hx640_3
                 replace hx640_4 := hC_ HB hx640_4
                 replace hx640_5 := hC_ HB hx640_5
                 replace p640 := eq_true p640
                 replace q640 := eq_true q640
                 go_wp2_with (first | (go_at_call 104; (with_reducible refine (r3_May.calls k4 ((q24 l0 x14_4).f0) x12_3 false _ A30.out).mono ?_); rintro e w37 ⟨rfl, hb⟩; replace HO_4 := aM_ (Kd.R_below (rR_ HO_4) hb); replace HO_5 := aM_ (Kd.R_below (rR_ HO_5) hb); replace HO_7 := aM_ (Kd.R_below (rR_ HO_7) hb); replace HO_8 := aM_ (Kd.R_below (rR_ HO_8) hb); replace HO_9 := aM_ (Kd.R_below (rR_ HO_9) hb); replace HB := aM_ (bT_ (bl_ HB) hb)))
                 go_meet
                 case rel => exact ⟨_, (true), eQ_, H, ⟨by have := HK1.out; have := HK2.out; have := HK3.out; have := HK4.out; first | omega | exact Nat.le_refl _⟩, ⟨rR_ HO_4⟩, ⟨rR_ HO_5⟩, ⟨rR_ HO_7⟩, ⟨rR_ HO_8⟩, ⟨rR_ HO_9⟩, ⟨bl_ HB⟩⟩
                rw [if_neg c27] at H
                exact absurd H (by simp)
               rw [if_neg c26] at H
               exact absurd H (by simp)
              case rest =>
               clear HC25
               obtain ⟨kq, x74_24, rfl, HA, HJ24, HO_4, HO_5, HO_7, HO_8, HO_9, HB⟩ := hcut
               cases kq with
               | zero => exact absurd HA.out (by simp [r13_Cycles.j4])
               | succ kj24 =>
                have H := HA.out
                clear HA
                simp only [r13_Cycles.j4] at H
                by_cases c38 : x74_24 = true
                ·subst c38
                 have H1 : (r13_Cycles.l3 kj24 l0 x4_3 x5_3 t630 t633 t636 x10_3 x11_2 x12_3 x13_4 (wrap64 (x14_4 + 1))) = some (r1, r2) := by rw [if_pos rfl] at H; exact H
                 clear H
                 have H := H1
                 clear H1
                 replace H := aM_ H
                 go_wp2
                 go_roundg kj24
                 case measure => have := HK1.out; have := HK2.out; have := HK3.out; have := HK4.out; have := HJ24.out; omega
                 case rel => exact ⟨(x13_4), (wrap64 (x14_4 + 1)), eQ_, eQ_, H, ⟨by have := HK1.out; have := HK2.out; have := HK3.out; have := HK4.out; have := HJ24.out; omega⟩, ⟨rR_ HO_4⟩, ⟨rR_ HO_5⟩, ⟨rR_ HO_7⟩, ⟨rR_ HO_8⟩, ⟨rR_ HO_9⟩, ⟨bl_ HB⟩⟩
                replace c38 := eF_ c38
                subst c38
                have H1 : (if x13_4 < 0 then (r13_Cycles.j5 kj24 l0 x4_3 x5_3 t630 t633 t636 x10_3 x11_2 x12_3 x13_4 x14_4 true) else (if 0 ≤ x14_4 then (if x14_4 < (t633.length : Int) then (if 0 ≤ x13_4 then (if x13_4 < (t633.length : Int) then (if (rd t633 x14_4) < (rd t633 x13_4) then (r13_Cycles.j5 kj24 l0 x4_3 x5_3 t630 t633 t636 x10_3 x11_2 x12_3 x13_4 x14_4 true) else (if (rd t633 x14_4) = (rd t633 x13_4) then (if x14_4 < (t630.length : Int) then (if x13_4 < (t630.length : Int) then (r13_Cycles.j5 kj24 l0 x4_3 x5_3 t630 t633 t636 x10_3 x11_2 x12_3 x13_4 x14_4 (decide ((rd t630 x14_4) > (rd t630 x13_4)))) else (none)) else (none)) else (r13_Cycles.j5 kj24 l0 x4_3 x5_3 t630 t633 t636 x10_3 x11_2 x12_3 x13_4 x14_4 false))) else (none)) else (none)) else (none)) else (none))) = some (r1, r2) := by rw [if_neg (show ¬ (false = true) by decide)] at H; exact H
                clear H
                have H := H1
                clear H1
                have HC39 := aM_ H
                clear H
                go_upto_region 19 with (fail)
                go_cut [109] (fun v109 wc => ∃ (kq : Nat) (x109_38 : Bool), v109 = .bool x109_38 ∧ As_ (r13_Cycles.j5 kq l0 x4_3 x5_3 t630 t633 t636 x10_3 x11_2 x12_3 x13_4 x14_4 x109_38 = some (r1, r2)) ∧ As_ (kq ≤ kj24) ∧ As_ (Kd.R (Kd.int .i64) 3 wc w.heap.size (fun k_ => some k_ ≠ (v627 : Value).ownBlock ∧ some k_ ≠ (v631 : Value).ownBlock ∧ some k_ ≠ (v634 : Value).ownBlock) v624 x4_3) ∧ As_ (Kd.R (Kd.int .i64) 3 wc w.heap.size (fun k_ => some k_ ≠ (v624 : Value).ownBlock ∧ some k_ ≠ (v631 : Value).ownBlock ∧ some k_ ≠ (v634 : Value).ownBlock) v627 x5_3) ∧ As_ (Kd.R (Kd.int .i64) 3 wc w.heap.size (fun k_ => some k_ ≠ (v624 : Value).ownBlock ∧ some k_ ≠ (v627 : Value).ownBlock ∧ some k_ ≠ (v634 : Value).ownBlock) v631 t630) ∧ As_ (Kd.R (Kd.int .i64) 3 wc w.heap.size (fun k_ => some k_ ≠ (v624 : Value).ownBlock ∧ some k_ ≠ (v627 : Value).ownBlock ∧ some k_ ≠ (v631 : Value).ownBlock) v634 t633) ∧ As_ (Kd.R k51 51 wc w.heap.size (fun _ => True) v637 t636) ∧ As_ (Below w.heap.size w wc))
                case first =>
                 have H := HC39.out
                 clear HC39
                 by_cases c40 : x13_4 < 0
                 ·rw [if_pos c40] at H
                  have c40b0 := dE_ c40
                  clear c40
                  (first | rw [c40b0] | (simp only [i64_w, i32_w]; rw [c40b0]) | skip)
                  replace H := aM_ H
                  try go_wp2
                  replace HO_4 := aM_ (Kd.R_drew HO_4.out)
                  replace HO_5 := aM_ (Kd.R_drew HO_5.out)
                  replace HO_7 := aM_ (Kd.R_drew HO_7.out)
                  replace HO_8 := aM_ (Kd.R_drew HO_8.out)
                  replace HO_9 := aM_ (Kd.R_drew HO_9.out)
                  replace HB := aM_ (b1_ HB.out)
                  refine start_ (n := 35) (S := fun w' => True) (ds := []) (bm 35 0) (by kernel_rfl) rfl (by kernel_rfl) trivial (fun hHeld => ?_); refine with_tabW r13_Cycles.tab19 r13_Cycles.bits19 (fun HT_ HW_ => ?_)
                  generalize wc.drew = w41 at HO_4 HO_5 HO_7 HO_8 HO_9 HB hHeld ⊢
                  refine seq_ (k := 32) [(0, some 75, false), (1, some 76, false), (2, some 77, false)] (bm 35 7) rfl (seq_of HT_.out HW_.out (by kernel_rfl)) (fun _ _ _ _ _ h => h) hHeld ?_
                  repeat (first | (refine SeqOn.pure (v := ?_) (a' := ?_) rfl rfl (Or.inl ⟨by kernel_rfl, ?_⟩) ?_ ?_; rotate_left 2; (focus (intro w'; go_simp; with_reducible rfl)); (focus exact pU_)))
                  refine SeqOn.nil ?_
                  refine offs_ (k := 23) (a' := ?_) [3, 4, 5, 6, 7, 8, 9, 10, 11] [some 78, some 79, some 80, some 81, some 82, some 83, some 84, some 85, some 86] (bm 35 4095) rfl rfl (off_of HT_.out (by kernel_rfl)) (by kernel_rfl) (fun _ _ _ _ _ h => h) ?_ ?_
                  rotate_left
                  ·simp only [undefs, Act.put, List.setIfInBounds_toArray, List.set_cons_zero, List.set_cons_succ]
                   rfl
                  refine seq_ (k := 21) [(12, some 87, false), (13, some 88, false)] (bm 35 16383) rfl (seq_of HT_.out HW_.out (by kernel_rfl)) (fun _ _ _ _ _ h => h) hHeld ?_
                  repeat (first | (refine SeqOn.pure (v := ?_) (a' := ?_) rfl rfl (Or.inl ⟨by kernel_rfl, ?_⟩) ?_ ?_; rotate_left 2; (focus (intro w'; go_simp; with_reducible rfl)); (focus exact pU_)))
                  refine SeqOn.nil ?_
                  refine offs_ (k := 1) (a' := ?_) [14, 15, 16, 17, 18, 19, 20, 21, 22, 23, 24, 25, 26, 27, 28, 29, 30, 31, 32, 33] [some 89, some 90, some 91, some 92, some 93, some 94, some 95, some 96, some 97, some 98, some 99, some 100, some 101, some 102, some 103, some 104, some 105, some 106, some 107, some 108] (bm 35 17179869183) rfl rfl (off_of HT_.out (by kernel_rfl)) (by kernel_rfl) (fun _ _ _ _ _ h => h) ?_ ?_
                  rotate_left
                  ·simp only [undefs, Act.put, List.setIfInBounds_toArray, List.set_cons_zero, List.set_cons_succ]
                   rfl
                  refine pure_ (i := 34) (N := some 109) (v := ?_) (a' := ?_) (bm 35 34359738367) rfl rfl (any_of HT_.out (by kernel_rfl)) (fun _ _ _ h => h) (Or.inl ⟨by rfl, ?_⟩) ?_ ?_
                  rotate_left
                  ·intro w'
                   go_simp
                   with_reducible rfl
                  rotate_left
                  ·simp only [Act.put, List.setIfInBounds_toArray, List.set_cons_zero, List.set_cons_succ, i64_w, i32_w]
                   rfl
                  refine done_ (done_of HT_.out (by kernel_rfl)) ?_
                  try go_wp2
                  go_meet
                  case rel => exact ⟨_, (true), eQ_, H, ⟨by have := HK1.out; have := HK2.out; have := HK3.out; have := HK4.out; have := HJ24.out; first | omega | exact Nat.le_refl _⟩, ⟨rR_ HO_4⟩, ⟨rR_ HO_5⟩, ⟨rR_ HO_7⟩, ⟨rR_ HO_8⟩, ⟨rR_ HO_9⟩, ⟨bl_ HB⟩⟩
                 rw [if_neg c40] at H
                 have c40b0 := dF_ c40
                 clear c40
                 (first | rw [c40b0] | (simp only [i64_w, i32_w]; rw [c40b0]) | skip)
                 by_cases c42 : 0 ≤ x14_4
                 ·rw [if_pos c42] at H
                  have c42b0 := dE_ c42
                  clear c42
                  by_cases c43 : x14_4 < (t633.length : Int)
                  ·rw [if_pos c43] at H
                   have c43b0 := dE_ c43
                   clear c43
                   by_cases c44 : 0 ≤ x13_4
                   ·rw [if_pos c44] at H
                    have c44b0 := dE_ c44
                    clear c44
                    by_cases c45 : x13_4 < (t633.length : Int)
                    ·rw [if_pos c45] at H
                     have c45b0 := dE_ c45
                     clear c45
                     by_cases c46 : (rd t633 x14_4) < (rd t633 x13_4)
                     ·rw [if_pos c46] at H
                      have c46b0 := dE_ c46
                      clear c46
                      replace H := aM_ H
                      try go_wp2
                      replace HO_4 := aM_ (Kd.R_drew HO_4.out)
                      replace HO_5 := aM_ (Kd.R_drew HO_5.out)
                      replace HO_7 := aM_ (Kd.R_drew HO_7.out)
                      replace HO_8 := aM_ (Kd.R_drew HO_8.out)
                      replace HO_9 := aM_ (Kd.R_drew HO_9.out)
                      replace HB := aM_ (b1_ HB.out)
                      obtain ⟨Ao48, co48, eo48⟩ := Kd.R_slice HO_8.out
                      (first | subst eo48 | (injection eo48 with f1_ f2_ f3_; have f4_ := f1_.symm; have f5_ := f3_.symm; clear f1_ f2_ f3_; subst f4_; subst f5_))
                      have p643 : 0 ≤ (x14_4 : Int) := oD_
                      have q643 : x14_4 < (t633.length : Int) := oD_
                      obtain ⟨ad643, e643, hx643_0⟩ := Kd.at_int (Kd.R_reads' HO_8.out).2.2 x14_4 p643 q643
                      cases e643
                      replace p643 := eq_true p643
                      replace q643 := eq_true q643
                      have p644 : 0 ≤ (x13_4 : Int) := oD_
                      have q644 : x13_4 < (t633.length : Int) := oD_
                      obtain ⟨ad644, e644, hx644_0⟩ := Kd.at_int (Kd.R_reads' HO_8.out).2.2 x13_4 p644 q644
                      obtain rfl : ad643 = ad644 := (by injection e644)
                      replace p644 := eq_true p644
                      replace q644 := eq_true q644
                      refine start_ (n := 35) (S := fun w' => w'.cell? (ad643.add (x14_4).toNat) = some (.int .i64 (rd t633 x14_4)) ∧ w'.cell? (ad643.add (x13_4).toNat) = some (.int .i64 (rd t633 x13_4))) (ds := []) (bm 35 0) (by kernel_rfl) rfl (by kernel_rfl) ⟨hx643_0, hx644_0⟩ (fun hHeld => ?_); refine with_tabW r13_Cycles.tab19 r13_Cycles.bits19 (fun HT_ HW_ => ?_)
                      generalize wc.drew = w47 at HO_4 HO_5 HO_7 HO_8 HO_9 HB hx643_0 hx644_0 hHeld ⊢
                      refine seq_ (k := 21) [(0, some 75, false), (1, some 76, false), (2, some 77, false), (3, some 78, false), (4, some 79, false), (5, some 80, false), (7, some 82, false), (8, some 83, false), (9, some 84, false), (6, some 81, true), (10, some 85, true), (11, some 86, false), (12, some 87, false), (13, some 88, false)] (bm 35 16383) rfl (seq_of HT_.out HW_.out (by kernel_rfl)) (fun _ _ _ _ _ h => h) hHeld ?_
                      repeat (first | (refine SeqOn.pure (v := ?_) (a' := ?_) rfl rfl (Or.inl ⟨by kernel_rfl, ?_⟩) ?_ ?_; rotate_left 2; (focus (intro w'; go_simp; with_reducible rfl)); (focus exact pU_)) | (refine SeqOn.take (v := ?_) (a' := ?_) rfl rfl (Or.inl ⟨by kernel_rfl, ?_⟩) ?_ ?_; rotate_left 2; (focus (rintro w' ⟨s0, s1⟩; go_simp; with_reducible rfl)); (focus exact pU_)))
                      refine SeqOn.nil ?_
                      refine offs_ (k := 1) (a' := ?_) [14, 15, 16, 17, 18, 19, 20, 21, 22, 23, 24, 25, 26, 27, 28, 29, 30, 31, 32, 33] [some 89, some 90, some 91, some 92, some 93, some 94, some 95, some 96, some 97, some 98, some 99, some 100, some 101, some 102, some 103, some 104, some 105, some 106, some 107, some 108] (bm 35 17179869183) rfl rfl (off_of HT_.out (by kernel_rfl)) (by kernel_rfl) (fun _ _ _ _ _ h => h) ?_ ?_
                      rotate_left
                      ·simp only [undefs, Act.put, List.setIfInBounds_toArray, List.set_cons_zero, List.set_cons_succ]
                       rfl
                      refine pure_ (i := 34) (N := some 109) (v := ?_) (a' := ?_) (bm 35 34359738367) rfl rfl (any_of HT_.out (by kernel_rfl)) (fun _ _ _ h => h) (Or.inl ⟨by rfl, ?_⟩) ?_ ?_
                      rotate_left
                      ·intro w'
                       go_simp
                       with_reducible rfl
                      rotate_left
                      ·simp only [Act.put, List.setIfInBounds_toArray, List.set_cons_zero, List.set_cons_succ, i64_w, i32_w]
                       rfl
                      refine done_ (done_of HT_.out (by kernel_rfl)) ?_
                      try go_wp2
                      go_meet
                      case rel => exact ⟨_, (true), eQ_, H, ⟨by have := HK1.out; have := HK2.out; have := HK3.out; have := HK4.out; have := HJ24.out; first | omega | exact Nat.le_refl _⟩, ⟨rR_ HO_4⟩, ⟨rR_ HO_5⟩, ⟨rR_ HO_7⟩, ⟨rR_ HO_8⟩, ⟨rR_ HO_9⟩, ⟨bl_ HB⟩⟩
                     rw [if_neg c46] at H
                     have c46b0 := dF_ c46
                     clear c46
                     by_cases c49 : (rd t633 x14_4) = (rd t633 x13_4)
                     ·rw [if_pos c49] at H
                      have c49b0 := bH_ c49
                      have c49b1 := bF_ c49
                      clear c49
                      by_cases c50 : x14_4 < (t630.length : Int)
                      ·rw [if_pos c50] at H
                       have c50b0 := dE_ c50
                       clear c50
                       by_cases c51 : x13_4 < (t630.length : Int)
                       ·rw [if_pos c51] at H
                        have c51b0 := dE_ c51
                        clear c51
                        replace H := aM_ H
                        try go_wp2
                        replace HO_4 := aM_ (Kd.R_drew HO_4.out)
                        replace HO_5 := aM_ (Kd.R_drew HO_5.out)
                        replace HO_7 := aM_ (Kd.R_drew HO_7.out)
                        replace HO_8 := aM_ (Kd.R_drew HO_8.out)
                        replace HO_9 := aM_ (Kd.R_drew HO_9.out)
                        replace HB := aM_ (b1_ HB.out)
                        obtain ⟨Ao53, co53, eo53⟩ := Kd.R_slice HO_8.out
                        (first | subst eo53 | (injection eo53 with f1_ f2_ f3_; have f4_ := f1_.symm; have f5_ := f3_.symm; clear f1_ f2_ f3_; subst f4_; subst f5_))
                        have p643 : 0 ≤ (x14_4 : Int) := oD_
                        have q643 : x14_4 < (t633.length : Int) := oD_
                        obtain ⟨ad643, e643, hx643_0⟩ := Kd.at_int (Kd.R_reads' HO_8.out).2.2 x14_4 p643 q643
                        cases e643
                        replace p643 := eq_true p643
                        replace q643 := eq_true q643
                        have p644 : 0 ≤ (x13_4 : Int) := oD_
                        have q644 : x13_4 < (t633.length : Int) := oD_
                        obtain ⟨ad644, e644, hx644_0⟩ := Kd.at_int (Kd.R_reads' HO_8.out).2.2 x13_4 p644 q644
                        obtain rfl : ad643 = ad644 := (by injection e644)
                        replace p644 := eq_true p644
                        replace q644 := eq_true q644
                        have p645 : 0 ≤ (x14_4 : Int) := oD_
                        have q645 : x14_4 < (t633.length : Int) := oD_
                        obtain ⟨ad645, e645, hx645_0⟩ := Kd.at_int (Kd.R_reads' HO_8.out).2.2 x14_4 p645 q645
                        obtain rfl : ad643 = ad645 := (by injection e645)
                        replace p645 := eq_true p645
                        replace q645 := eq_true q645
                        have p646 : 0 ≤ (x13_4 : Int) := oD_
                        have q646 : x13_4 < (t633.length : Int) := oD_
                        obtain ⟨ad646, e646, hx646_0⟩ := Kd.at_int (Kd.R_reads' HO_8.out).2.2 x13_4 p646 q646
                        obtain rfl : ad643 = ad646 := (by injection e646)
                        replace p646 := eq_true p646
                        replace q646 := eq_true q646
                        obtain ⟨Ao54, co54, eo54⟩ := Kd.R_slice HO_7.out
                        (first | subst eo54 | (injection eo54 with f1_ f2_ f3_; have f4_ := f1_.symm; have f5_ := f3_.symm; clear f1_ f2_ f3_; subst f4_; subst f5_))
                        have p647 : 0 ≤ (x14_4 : Int) := oD_
                        have q647 : x14_4 < (t630.length : Int) := oD_
                        obtain ⟨ad647, e647, hx647_0⟩ := Kd.at_int (Kd.R_reads' HO_7.out).2.2 x14_4 p647 q647
                        cases e647
                        replace p647 := eq_true p647
                        replace q647 := eq_true q647
                        have p648 : 0 ≤ (x13_4 : Int) := oD_
                        have q648 : x13_4 < (t630.length : Int) := oD_
                        obtain ⟨ad648, e648, hx648_0⟩ := Kd.at_int (Kd.R_reads' HO_7.out).2.2 x13_4 p648 q648
                        obtain rfl : ad647 = ad648 := (by injection e648)
                        replace p648 := eq_true p648
                        replace q648 := eq_true q648
                        refine start_ (n := 35) (S := fun w' => w'.cell? (ad643.add (x14_4).toNat) = some (.int .i64 (rd t633 x14_4)) ∧ w'.cell? (ad643.add (x13_4).toNat) = some (.int .i64 (rd t633 x13_4)) ∧ w'.cell? (ad643.add (x14_4).toNat) = some (.int .i64 (rd t633 x14_4)) ∧ w'.cell? (ad643.add (x13_4).toNat) = some (.int .i64 (rd t633 x13_4)) ∧ w'.cell? (ad647.add (x14_4).toNat) = some (.int .i64 (rd t630 x14_4)) ∧ w'.cell? (ad647.add (x13_4).toNat) = some (.int .i64 (rd t630 x13_4))) (ds := []) (bm 35 0) (by kernel_rfl) rfl (by kernel_rfl) ⟨hx643_0, hx644_0, hx645_0, hx646_0, hx647_0, hx648_0⟩ (fun hHeld => ?_); refine with_tabW r13_Cycles.tab19 r13_Cycles.bits19 (fun HT_ HW_ => ?_)
                        generalize wc.drew = w52 at HO_4 HO_5 HO_7 HO_8 HO_9 HB hx643_0 hx644_0 hx645_0 hx646_0 hx647_0 hx648_0 hHeld ⊢
                        refine seq_ (k := 0) [(0, some 75, false), (1, some 76, false), (2, some 77, false), (3, some 78, false), (4, some 79, false), (5, some 80, false), (7, some 82, false), (8, some 83, false), (9, some 84, false), (6, some 81, true), (10, some 85, true), (11, some 86, false), (12, some 87, false), (13, some 88, false), (14, some 89, false), (15, some 90, false), (16, some 91, false), (18, some 93, false), (19, some 94, false), (20, some 95, false), (17, some 92, true), (21, some 96, true), (22, some 97, false), (23, some 98, false), (24, some 99, false), (25, some 100, false), (26, some 101, false), (28, some 103, false), (29, some 104, false), (30, some 105, false), (27, some 102, true), (31, some 106, true), (32, some 107, false), (33, some 108, false), (34, some 109, false)] (bm 35 34359738367) rfl (seq_of HT_.out HW_.out (by kernel_rfl)) (fun _ _ _ _ _ h => h) hHeld ?_
                        repeat (first | (refine SeqOn.pure (v := ?_) (a' := ?_) rfl rfl (Or.inl ⟨by kernel_rfl, ?_⟩) ?_ ?_; rotate_left 2; (focus (intro w'; go_simp; with_reducible rfl)); (focus exact pU_)) | (refine SeqOn.take (v := ?_) (a' := ?_) rfl rfl (Or.inl ⟨by kernel_rfl, ?_⟩) ?_ ?_; rotate_left 2; (focus (rintro w' ⟨s0, s1, s2, s3, s4, s5⟩; go_simp; with_reducible rfl)); (focus exact pU_)))
                        refine SeqOn.nil ?_
                        refine done_ (done_of HT_.out (by kernel_rfl)) ?_
                        try go_wp2
                        go_meet
                        case rel => exact ⟨_, (decide ((rd t630 x14_4) > (rd t630 x13_4))), eQ_, H, ⟨by have := HK1.out; have := HK2.out; have := HK3.out; have := HK4.out; have := HJ24.out; first | omega | exact Nat.le_refl _⟩, ⟨rR_ HO_4⟩, ⟨rR_ HO_5⟩, ⟨rR_ HO_7⟩, ⟨rR_ HO_8⟩, ⟨rR_ HO_9⟩, ⟨bl_ HB⟩⟩
                       rw [if_neg c51] at H
                       exact absurd H (by simp)
                      rw [if_neg c50] at H
                      exact absurd H (by simp)
                     rw [if_neg c49] at H
                     have c49b0 := bE_ c49
                     have c49b1 := bG_ c49
                     replace H := aM_ H
                     try go_wp2
                     replace HO_4 := aM_ (Kd.R_drew HO_4.out)
                     replace HO_5 := aM_ (Kd.R_drew HO_5.out)
                     replace HO_7 := aM_ (Kd.R_drew HO_7.out)
                     replace HO_8 := aM_ (Kd.R_drew HO_8.out)
                     replace HO_9 := aM_ (Kd.R_drew HO_9.out)
                     replace HB := aM_ (b1_ HB.out)
                     obtain ⟨Ao56, co56, eo56⟩ := Kd.R_slice HO_8.out
                     (first | subst eo56 | (injection eo56 with f1_ f2_ f3_; have f4_ := f1_.symm; have f5_ := f3_.symm; clear f1_ f2_ f3_; subst f4_; subst f5_))
                     have p643 : 0 ≤ (x14_4 : Int) := oD_
                     have q643 : x14_4 < (t633.length : Int) := oD_
                     obtain ⟨ad643, e643, hx643_0⟩ := Kd.at_int (Kd.R_reads' HO_8.out).2.2 x14_4 p643 q643
                     cases e643
                     replace p643 := eq_true p643
                     replace q643 := eq_true q643
                     have p644 : 0 ≤ (x13_4 : Int) := oD_
                     have q644 : x13_4 < (t633.length : Int) := oD_
                     obtain ⟨ad644, e644, hx644_0⟩ := Kd.at_int (Kd.R_reads' HO_8.out).2.2 x13_4 p644 q644
                     obtain rfl : ad643 = ad644 := (by injection e644)
                     replace p644 := eq_true p644
                     replace q644 := eq_true q644
                     have p645 : 0 ≤ (x14_4 : Int) := oD_
                     have q645 : x14_4 < (t633.length : Int) := oD_
                     obtain ⟨ad645, e645, hx645_0⟩ := Kd.at_int (Kd.R_reads' HO_8.out).2.2 x14_4 p645 q645
                     obtain rfl : ad643 = ad645 := (by injection e645)
                     replace p645 := eq_true p645
                     replace q645 := eq_true q645
                     have p646 : 0 ≤ (x13_4 : Int) := oD_
                     have q646 : x13_4 < (t633.length : Int) := oD_
                     obtain ⟨ad646, e646, hx646_0⟩ := Kd.at_int (Kd.R_reads' HO_8.out).2.2 x13_4 p646 q646
                     obtain rfl : ad643 = ad646 := (by injection e646)
                     replace p646 := eq_true p646
                     replace q646 := eq_true q646
                     refine start_ (n := 35) (S := fun w' => w'.cell? (ad643.add (x14_4).toNat) = some (.int .i64 (rd t633 x14_4)) ∧ w'.cell? (ad643.add (x13_4).toNat) = some (.int .i64 (rd t633 x13_4)) ∧ w'.cell? (ad643.add (x14_4).toNat) = some (.int .i64 (rd t633 x14_4)) ∧ w'.cell? (ad643.add (x13_4).toNat) = some (.int .i64 (rd t633 x13_4))) (ds := []) (bm 35 0) (by kernel_rfl) rfl (by kernel_rfl) ⟨hx643_0, hx644_0, hx645_0, hx646_0⟩ (fun hHeld => ?_); refine with_tabW r13_Cycles.tab19 r13_Cycles.bits19 (fun HT_ HW_ => ?_)
                     generalize wc.drew = w55 at HO_4 HO_5 HO_7 HO_8 HO_9 HB hx643_0 hx644_0 hx645_0 hx646_0 hHeld ⊢
                     refine seq_ (k := 11) [(0, some 75, false), (1, some 76, false), (2, some 77, false), (3, some 78, false), (4, some 79, false), (5, some 80, false), (7, some 82, false), (8, some 83, false), (9, some 84, false), (6, some 81, true), (10, some 85, true), (11, some 86, false), (12, some 87, false), (13, some 88, false), (14, some 89, false), (15, some 90, false), (16, some 91, false), (18, some 93, false), (19, some 94, false), (20, some 95, false), (17, some 92, true), (21, some 96, true), (22, some 97, false), (23, some 98, false)] (bm 35 16777215) rfl (seq_of HT_.out HW_.out (by kernel_rfl)) (fun _ _ _ _ _ h => h) hHeld ?_
                     repeat (first | (refine SeqOn.pure (v := ?_) (a' := ?_) rfl rfl (Or.inl ⟨by kernel_rfl, ?_⟩) ?_ ?_; rotate_left 2; (focus (intro w'; go_simp; with_reducible rfl)); (focus exact pU_)) | (refine SeqOn.take (v := ?_) (a' := ?_) rfl rfl (Or.inl ⟨by kernel_rfl, ?_⟩) ?_ ?_; rotate_left 2; (focus (rintro w' ⟨s0, s1, s2, s3⟩; go_simp; with_reducible rfl)); (focus exact pU_)))
                     refine SeqOn.nil ?_
                     refine offs_ (k := 2) (a' := ?_) [24, 25, 26, 27, 28, 29, 30, 31, 32] [some 99, some 100, some 101, some 102, some 103, some 104, some 105, some 106, some 107] (bm 35 8589934591) rfl rfl (off_of HT_.out (by kernel_rfl)) (by kernel_rfl) (fun _ _ _ _ _ h => h) ?_ ?_
                     rotate_left
                     ·simp only [undefs, Act.put, List.setIfInBounds_toArray, List.set_cons_zero, List.set_cons_succ]
                      rfl
                     refine seq_ (k := 0) [(33, some 108, false), (34, some 109, false)] (bm 35 34359738367) rfl (seq_of HT_.out HW_.out (by kernel_rfl)) (fun _ _ _ _ _ h => h) hHeld ?_
                     repeat (first | (refine SeqOn.pure (v := ?_) (a' := ?_) rfl rfl (Or.inl ⟨by kernel_rfl, ?_⟩) ?_ ?_; rotate_left 2; (focus (intro w'; go_simp; with_reducible rfl)); (focus exact pU_)))
                     refine SeqOn.nil ?_
                     refine done_ (done_of HT_.out (by kernel_rfl)) ?_
                     try go_wp2
                     go_meet
                     case rel => exact ⟨_, (false), eQ_, H, ⟨by have := HK1.out; have := HK2.out; have := HK3.out; have := HK4.out; have := HJ24.out; first | omega | exact Nat.le_refl _⟩, ⟨rR_ HO_4⟩, ⟨rR_ HO_5⟩, ⟨rR_ HO_7⟩, ⟨rR_ HO_8⟩, ⟨rR_ HO_9⟩, ⟨bl_ HB⟩⟩
                    rw [if_neg c45] at H
                    exact absurd H (by simp)
                   rw [if_neg c44] at H
                   exact absurd H (by simp)
                  rw [if_neg c43] at H
                  exact absurd H (by simp)
                 rw [if_neg c42] at H
                 exact absurd H (by simp)
                case rest =>
                 clear HC39
                 obtain ⟨kq, x109_38, rfl, HA, HJ38, HO_4, HO_5, HO_7, HO_8, HO_9, HB⟩ := hcut
                 cases kq with
                 | zero => exact absurd HA.out (by simp [r13_Cycles.j5])
                 | succ kj38 =>
                  have H := HA.out
                  clear HA
                  simp only [r13_Cycles.j5] at H
                  by_cases c57 : x109_38 = true
                  ·subst c57
                   have H1 : (r13_Cycles.l3 kj38 l0 x4_3 x5_3 t630 t633 t636 x10_3 x11_2 x12_3 x14_4 (wrap64 (x14_4 + 1))) = some (r1, r2) := by rw [if_pos rfl] at H; exact H
                   clear H
                   have H := H1
                   clear H1
                   replace H := aM_ H
                   go_wp2
                   go_roundg kj38
                   case measure => have := HK1.out; have := HK2.out; have := HK3.out; have := HK4.out; have := HJ24.out; have := HJ38.out; omega
                   case rel => exact ⟨(x14_4), (wrap64 (x14_4 + 1)), eQ_, eQ_, H, ⟨by have := HK1.out; have := HK2.out; have := HK3.out; have := HK4.out; have := HJ24.out; have := HJ38.out; omega⟩, ⟨rR_ HO_4⟩, ⟨rR_ HO_5⟩, ⟨rR_ HO_7⟩, ⟨rR_ HO_8⟩, ⟨rR_ HO_9⟩, ⟨bl_ HB⟩⟩
                  replace c57 := eF_ c57
                  subst c57
                  have H1 : (r13_Cycles.l3 kj38 l0 x4_3 x5_3 t630 t633 t636 x10_3 x11_2 x12_3 x13_4 (wrap64 (x14_4 + 1))) = some (r1, r2) := by rw [if_neg (show ¬ (false = true) by decide)] at H; exact H
                  clear H
                  have H := H1
                  clear H1
                  replace H := aM_ H
                  go_wp2
                  go_roundg kj38
                  case measure => have := HK1.out; have := HK2.out; have := HK3.out; have := HK4.out; have := HJ24.out; have := HJ38.out; omega
                  case rel => exact ⟨(x13_4), (wrap64 (x14_4 + 1)), eQ_, eQ_, H, ⟨by have := HK1.out; have := HK2.out; have := HK3.out; have := HK4.out; have := HJ24.out; have := HJ38.out; omega⟩, ⟨rR_ HO_4⟩, ⟨rR_ HO_5⟩, ⟨rR_ HO_7⟩, ⟨rR_ HO_8⟩, ⟨rR_ HO_9⟩, ⟨bl_ HB⟩⟩
             rw [if_neg c24] at H
             have c24b0 := dF_ c24
             clear c24
             by_cases c58 : x13_4 ≥ 0
             ·rw [if_pos c58] at H
              have c58b0 := dE_ c58
              clear c58
              by_cases c59 : 0 ≤ x13_4
              ·rw [if_pos c59] at H
               have c59b0 := dE_ c59
               clear c59
               by_cases c60 : x13_4 < (x4_3.length : Int)
               ·rw [if_pos c60] at H
                have c60b0 := dE_ c60
                clear c60
                obtain ⟨y649, hy649⟩ : ∃ y_ : List Int, y_ = (x4_3.set (x13_4 : Int).toNat x11_2) := ⟨_, rfl⟩
                replace H : (if x13_4 < (x5_3.length : Int) then (r13_Cycles.l2 k4 l0 y649 (x5_3.set (x13_4 : Int).toNat x12_3) t630 t633 t636 (wrap64 (x10_3 - 1)) x11_2 (wrap64 (x12_3 + 1))) else (none)) = some (r1, r2) := by first | (rw [hy649]; with_reducible exact H) | (have H2_ := (Option.bind_some _ _).symm.trans H; rw [hy649]; with_reducible exact H2_) | (have H2_ := (Option.bind_some _ _).symm.trans H; with_reducible exact H2_) | with_reducible exact H | (rw [hy649]; exact H) | exact H
                have Ny649 := aM_ hy649
                clear hy649
                by_cases c62 : x13_4 < (x5_3.length : Int)
                ·rw [if_pos c62] at H
                 have c62b0 := dE_ c62
                 clear c62
                 obtain ⟨y650, hy650⟩ : ∃ y_ : List Int, y_ = (x5_3.set (x13_4 : Int).toNat x12_3) := ⟨_, rfl⟩
                 replace H : (r13_Cycles.l2 k4 l0 y649 y650 t630 t633 t636 (wrap64 (x10_3 - 1)) x11_2 (wrap64 (x12_3 + 1))) = some (r1, r2) := by first | (rw [hy650]; with_reducible exact H) | (have H2_ := (Option.bind_some _ _).symm.trans H; rw [hy650]; with_reducible exact H2_) | (have H2_ := (Option.bind_some _ _).symm.trans H; with_reducible exact H2_) | with_reducible exact H | (rw [hy650]; exact H) | exact H
                 have Ny650 := aM_ hy650
                 clear hy650
                 replace H := aM_ H
                 have p61 : 0 ≤ (x13_4 : Int) := oD_
                 have q61 : (x13_4 : Int) < ((x4_3.length : Int) : Int) := oD_
                 obtain ⟨go61, co61, eo61, gb61, gl61, cl61, HG61⟩ := Kd.R_form HO_4.out (by omega)
                 (first | cases eo61 | (injection eo61 with ea_ en_ ec_; (first | subst ea_ | (injection ea_ with ea_; subst ea_)); subst ec_; clear en_))
                 have GB61 := aM_ gb61
                 have GG61 := aM_ HG61
                 clear gb61 gl61 HG61
                 obtain ⟨hx61_0, hf61_0⟩ := Kd.R_celln 0 HO_4.out (x13_4 : Int) p61 q61
                 replace p61 := eq_true p61
                 replace q61 := eq_true q61
                 have HP64 := Kd.R_putg HO_4.out (x13_4 : Int) x11_2
                 go_wp2_with (first | ((with_reducible refine gate_store (t := 3) (p := 119) rfl ?_); refine store_event (t := 3) (p := 119) (v := ?vo_w65) (w1 := (wr.setCell ⟨go61, (x13_4 : Int).toNat, none⟩ (.int .i64 x11_2))) ?hg ?ho ?hn ?hr ?_; (case ho => rfl); (case hg => rfl); (case hn => rfl); (case hr => first | (go_simp; done) | (go_simp; rfl)); intro w65 hw; have hg : wr.grownBy w65 (some go61) := (by rw [hw]; exact HP64.2); have hp_ : Kd.R (Kd.int .i64) 3 w65 w.heap.size (fun k_ => some k_ ≠ (v627 : Value).ownBlock ∧ some k_ ≠ (v631 : Value).ownBlock ∧ some k_ ≠ (v634 : Value).ownBlock) (.slice (some ⟨go61, 0, none⟩) x4_3.length co61) y649 := (by rw [hw, Ny649.out]; exact HP64.1); clear HP64; replace HO_5 := aM_ (Kd.R_after (v := (.slice (some ⟨go61, 0, none⟩) x4_3.length co61)) (v1 := (.slice (some ⟨go61, 0, none⟩) x4_3.length co61)) (ok := (fun k_ => some k_ ≠ (v631 : Value).ownBlock ∧ some k_ ≠ (v634 : Value).ownBlock)) (by (with_reducible repeat (first | apply Kd.R_alloc | apply Kd.R_drewN | apply Kd.R_drew)); exact Kd.R_mono HO_5.out (fun _ hk => ⟨⟨hk.2.1, hk.2.2⟩, hk.1⟩)) hg (.inl rfl)); replace HO_7 := aM_ (Kd.R_after (v := (.slice (some ⟨go61, 0, none⟩) x4_3.length co61)) (v1 := (.slice (some ⟨go61, 0, none⟩) x4_3.length co61)) (ok := (fun k_ => some k_ ≠ (v627 : Value).ownBlock ∧ some k_ ≠ (v634 : Value).ownBlock)) (by (with_reducible repeat (first | apply Kd.R_alloc | apply Kd.R_drewN | apply Kd.R_drew)); exact Kd.R_mono HO_7.out (fun _ hk => ⟨⟨hk.2.1, hk.2.2⟩, hk.1⟩)) hg (.inl rfl)); replace HO_8 := aM_ (Kd.R_after (v := (.slice (some ⟨go61, 0, none⟩) x4_3.length co61)) (v1 := (.slice (some ⟨go61, 0, none⟩) x4_3.length co61)) (ok := (fun k_ => some k_ ≠ (v627 : Value).ownBlock ∧ some k_ ≠ (v631 : Value).ownBlock)) (by (with_reducible repeat (first | apply Kd.R_alloc | apply Kd.R_drewN | apply Kd.R_drew)); exact Kd.R_mono HO_8.out (fun _ hk => ⟨⟨hk.2.1, hk.2.2⟩, hk.1⟩)) hg (.inl rfl)); replace HO_9 := aM_ (Kd.R_over' (v := (.slice (some ⟨go61, 0, none⟩) x4_3.length co61)) (rR_ HO_9) (Kd.R_typed HO_4.out) (by decide) hg); replace HO_4 := aM_ (hp_); replace HB := aM_ ((by rw [hw]; exact bS_ (HB.out) GB61.out : Below w.heap.size w w65)); clear hg hw hp_; have p63 : 0 ≤ (x13_4 : Int) := oD_; have q63 : (x13_4 : Int) < ((x5_3.length : Int) : Int) := oD_; obtain ⟨go63, co63, eo63, gb63, gl63, cl63, HG63⟩ := Kd.R_form HO_5.out (by omega); (first | cases eo63 | (injection eo63 with ea_ en_ ec_; (first | subst ea_ | (injection ea_ with ea_; subst ea_)); subst ec_; clear en_)); have GB63 := aM_ gb63; have GG63 := aM_ HG63; clear gb63 gl63 HG63; obtain ⟨hx63_0, hf63_0⟩ := Kd.R_celln 0 HO_5.out (x13_4 : Int) p63 q63; replace p63 := eq_true p63; replace q63 := eq_true q63; have n_ := aM_ (Kd.R_mono (ok' := (fun k_ => some k_ ≠ (.slice (some ⟨go61, 0, none⟩) x4_3.length co61 : Value).ownBlock ∧ some k_ ≠ (v631 : Value).ownBlock ∧ some k_ ≠ (v634 : Value).ownBlock)) HO_5.out (fun k_ hk => ⟨hk.2, ⟨hk.1.1, hk.1.2⟩⟩)); clear HO_5; have HO_5 := n_; clear n_; obtain ⟨hy66_, hz66_⟩ := Kd.R_celln 0 HO_5.out (x13_4 : Int) (oD_) (oD_); have HP66 := Kd.R_putg HO_5.out (x13_4 : Int) x12_3) | ((with_reducible refine gate_store (t := 3) (p := 120) rfl ?_); refine store_event (t := 3) (p := 120) (v := ?vo_w67) (w1 := (w65.setCell ⟨go63, (x13_4 : Int).toNat, none⟩ (.int .i64 x12_3))) ?hg ?ho ?hn ?hr ?_; (case ho => rfl); (case hg => rfl); (case hn => rfl); (case hr => first | (go_simp; done) | (go_simp; rfl)); intro w67 hw; have hg : w65.grownBy w67 (some go63) := (by rw [hw]; exact HP66.2); have hp_ : Kd.R (Kd.int .i64) 3 w67 w.heap.size (fun k_ => some k_ ≠ (.slice (some ⟨go61, 0, none⟩) x4_3.length co61 : Value).ownBlock ∧ some k_ ≠ (v631 : Value).ownBlock ∧ some k_ ≠ (v634 : Value).ownBlock) (.slice (some ⟨go63, 0, none⟩) x5_3.length co63) y650 := (by rw [hw, Ny650.out]; exact HP66.1); clear HP66; replace HO_4 := aM_ (Kd.R_after (v := (.slice (some ⟨go63, 0, none⟩) x5_3.length co63)) (v1 := (.slice (some ⟨go63, 0, none⟩) x5_3.length co63)) (ok := (fun k_ => some k_ ≠ (v631 : Value).ownBlock ∧ some k_ ≠ (v634 : Value).ownBlock)) (by (with_reducible repeat (first | apply Kd.R_alloc | apply Kd.R_drewN | apply Kd.R_drew)); exact Kd.R_mono HO_4.out (fun _ hk => ⟨⟨hk.2.1, hk.2.2⟩, hk.1⟩)) hg (.inl rfl)); replace HO_7 := aM_ (Kd.R_after (v := (.slice (some ⟨go63, 0, none⟩) x5_3.length co63)) (v1 := (.slice (some ⟨go63, 0, none⟩) x5_3.length co63)) (ok := (fun k_ => some k_ ≠ (.slice (some ⟨go61, 0, none⟩) x4_3.length co61 : Value).ownBlock ∧ some k_ ≠ (v634 : Value).ownBlock)) (by (with_reducible repeat (first | apply Kd.R_alloc | apply Kd.R_drewN | apply Kd.R_drew)); exact Kd.R_mono HO_7.out (fun _ hk => ⟨⟨hk.2, hk.1.2⟩, hk.1.1⟩)) hg (.inl rfl)); replace HO_8 := aM_ (Kd.R_after (v := (.slice (some ⟨go63, 0, none⟩) x5_3.length co63)) (v1 := (.slice (some ⟨go63, 0, none⟩) x5_3.length co63)) (ok := (fun k_ => some k_ ≠ (.slice (some ⟨go61, 0, none⟩) x4_3.length co61 : Value).ownBlock ∧ some k_ ≠ (v631 : Value).ownBlock)) (by (with_reducible repeat (first | apply Kd.R_alloc | apply Kd.R_drewN | apply Kd.R_drew)); exact Kd.R_mono HO_8.out (fun _ hk => ⟨⟨hk.2, hk.1.2⟩, hk.1.1⟩)) hg (.inl rfl)); replace HO_9 := aM_ (Kd.R_over' (v := (.slice (some ⟨go63, 0, none⟩) x5_3.length co63)) (rR_ HO_9) (Kd.R_typed HO_5.out) (by decide) hg); replace HO_5 := aM_ (hp_); replace HB := aM_ ((by rw [hw]; exact bS_ (HB.out) GB63.out : Below w.heap.size w w67)); clear hg hw hp_))
                 go_roundg k4
                 case measure => have := HK1.out; have := HK2.out; have := HK3.out; have := HK4.out; omega
                 case rel => exact ⟨(y649), (y650), (wrap64 (x10_3 - 1)), (wrap64 (x12_3 + 1)), eQ_, eQ_, H, ⟨by have := HK1.out; have := HK2.out; have := HK3.out; have := HK4.out; omega⟩, ⟨by (with_reducible repeat (first | apply Kd.R_alloc | apply Kd.R_drewN | apply Kd.R_drew)); exact Kd.R_mono HO_4.out (fun _ hk => ⟨hk.2, ⟨hk.1.1, hk.1.2⟩⟩)⟩, ⟨rR_ HO_5⟩, ⟨by (with_reducible repeat (first | apply Kd.R_alloc | apply Kd.R_drewN | apply Kd.R_drew)); exact Kd.R_mono HO_7.out (fun _ hk => ⟨hk.1.1, ⟨hk.2, hk.1.2⟩⟩)⟩, ⟨by (with_reducible repeat (first | apply Kd.R_alloc | apply Kd.R_drewN | apply Kd.R_drew)); exact Kd.R_mono HO_8.out (fun _ hk => ⟨hk.1.1, ⟨hk.2, hk.1.2⟩⟩)⟩, ⟨rR_ HO_9⟩, ⟨bl_ HB⟩⟩
                rw [if_neg c62] at H
                exact absurd H (by simp)
               rw [if_neg c60] at H
               exact absurd H (by simp)
              rw [if_neg c59] at H
              exact absurd H (by simp)
             rw [if_neg c58] at H
             have c58b0 := dF_ c58
             clear c58
             replace H := aM_ H
             go_wp2
             go_roundg k4
             case measure => have := HK1.out; have := HK2.out; have := HK3.out; have := HK4.out; omega
             case rel => exact ⟨(x4_3), (x5_3), (x10_3), (wrap64 (x12_3 + 1)), eQ_, eQ_, H, ⟨by have := HK1.out; have := HK2.out; have := HK3.out; have := HK4.out; omega⟩, ⟨rR_ HO_4⟩, ⟨rR_ HO_5⟩, ⟨rR_ HO_7⟩, ⟨rR_ HO_8⟩, ⟨rR_ HO_9⟩, ⟨bl_ HB⟩⟩
          rw [if_neg c23] at H
          have c23b0 := dF_ c23
          clear c23
          replace H := aM_ H
          go_wp2
          go_roundg k3
          case measure => have := HK1.out; have := HK2.out; have := HK3.out; omega
          case rel => exact ⟨(x4_3), (x5_3), (x10_3), (wrap64 (x11_2 + 1)), eQ_, eQ_, H, ⟨by have := HK1.out; have := HK2.out; have := HK3.out; omega⟩, ⟨rR_ HO_4⟩, ⟨rR_ HO_5⟩, ⟨rR_ HO_7⟩, ⟨rR_ HO_8⟩, ⟨rR_ HO_9⟩, ⟨bl_ HB⟩⟩
       rw [if_neg c22] at H
       have c22b0 := dF_ c22
       clear c22
       simp only [Option.some.injEq, Prod.mk.injEq] at H
       obtain ⟨rfl, rfl⟩ := H
       go_wp2
       go_ret2
       exact ⟨_, _, eR_, by (with_reducible repeat (first | apply Kd.R_alloc | apply Kd.R_drewN | apply Kd.R_drew)); exact Kd.R_mono HO_4.out (fun _ hk => hk.1), by (with_reducible repeat (first | apply Kd.R_alloc | apply Kd.R_drewN | apply Kd.R_drew)); exact Kd.R_mono HO_5.out (fun _ hk => hk.1), bl_ HB⟩
  rw [if_neg c3] at H
  exact absurd H (by simp)
 rw [if_neg c2] at H
 exact absurd H (by simp)
end Go.Proofs.Ytibfkkjkahpobaa.PDag
