import Derived.Test.YtibfkkjkahpobaaMx15
set_option linter.unusedVariables false
set_option linter.unusedSimpArgs false
set_option maxHeartbeats 8000000
set_option maxRecDepth 100000
open Go.RowKit Go.Proofs.YtibfkkjkahpobaaW.PrintWords Go.Proofs.YtibfkkjkahpobaaW.PrintLast Go.Proofs.YtibfkkjkahpobaaW.PrintMore
namespace Go.Proofs.Ytibfkkjkahpobaa.PDag
section
attribute [local go_sem] max2_int min2_int max_two min_two max_three min_three max_four min_four
def r0_Between.f (a0 : Int) (a1 : Int) (a2 : Int) : Option (Bool) := if a0 ≥ a1 then (some (decide (a0 ≤ a2))) else (some false)
theorem r0_Between.calls (a0 : Int) (a1 : Int) (a2 : Int) (r : Bool) (w : World) (h : r0_Between.f a0 a1 a2 = some r) :
    Calls Try.prog 54 #[.int .i64 a0, .int .i64 a1, .int .i64 a2] w fun e w' => e = .returned (.bool r) ∧ Dr_ w w' := by
 have H : (if a0 ≥ a1 then (some (decide (a0 ≤ a2))) else (some false)) = some r := h
 clear h
 by_cases c4 : a0 ≥ a1
 ·rw [if_pos c4] at H
  have c4b0 := dE_ c4
  clear c4
  obtain rfl := oI_ H
  go_enter Try.func54, Try.ntmps54
  go_wp2
  go_ret
  exact ⟨eQ_, dR_⟩
 rw [if_neg c4] at H
 have c4b0 := dF_ c4
 clear c4
 obtain rfl := oI_ H
 go_enter Try.func54, Try.ntmps54
 go_wp2
 go_ret
 exact ⟨eQ_, dR_⟩
def r3_Effect.f (a0 : Int) : Option (Bool) := if a0 = 16 then (some true) else (if a0 = 17 then (some true) else ((r0_Between.f a0 24 27).bind fun t194 => (if t194 = true then (some true) else ((r0_Between.f a0 31 33).bind fun t195 => (some t195)))))
theorem r3_Effect.calls (a0 : Int) (r : Bool) (w : World) (h : r3_Effect.f a0 = some r) :
    Calls Try.prog 36 #[.int .i64 a0] w fun e w' => e = .returned (.bool r) ∧ Dr_ w w' := by
 have H : (if a0 = 16 then (some true) else (if a0 = 17 then (some true) else ((r0_Between.f a0 24 27).bind fun t194 => (if t194 = true then (some true) else ((r0_Between.f a0 31 33).bind fun t195 => (some t195)))))) = some r := h
 clear h
 by_cases c2 : a0 = 16
 ·rw [if_pos c2] at H
  have c2b0 := bH_ c2
  have c2b1 := bF_ c2
  clear c2
  obtain rfl := oI_ H
  go_enter Try.func36, Try.ntmps36
  go_wp2
  go_ret
  exact ⟨eQ_, dR_⟩
 rw [if_neg c2] at H
 have c2b0 := bE_ c2
 have c2b1 := bG_ c2
 by_cases c3 : a0 = 17
 ·rw [if_pos c3] at H
  have c3b0 := bH_ c3
  have c3b1 := bF_ c3
  clear c3
  obtain rfl := oI_ H
  go_enter Try.func36, Try.ntmps36
  go_wp2
  go_ret
  exact ⟨eQ_, dR_⟩
 rw [if_neg c3] at H
 have c3b0 := bE_ c3
 have c3b1 := bG_ c3
 replace H := oB_ H
 obtain ⟨t194, A4, H⟩ := H
 by_cases c5 : t194 = true
 ·subst c5
  rw [if_pos rfl] at H
  obtain rfl := oI_ H
  go_enter Try.func36, Try.ntmps36
  go_wp2_with (first | (go_at_call 54; (with_reducible refine (r0_Between.calls a0 24 27 true _ A4.out).mono ?_); rintro e w' ⟨rfl, ⟨nd, rfl⟩⟩))
  go_ret
  exact ⟨eQ_, dR_⟩
 replace c5 := eF_ c5
 subst c5
 rw [if_neg Bool.false_ne_true] at H
 replace H := oB_ H
 obtain ⟨t195, A6, H⟩ := H
 obtain rfl := oI_ H
 go_enter Try.func36, Try.ntmps36
 go_wp2_with (first | (go_at_call 54; (with_reducible refine (r0_Between.calls a0 24 27 false _ A4.out).mono ?_); rintro e w' ⟨rfl, ⟨nd, rfl⟩⟩) | (go_at_call 54; (with_reducible refine (r0_Between.calls a0 31 33 t195 _ A6.out).mono ?_); rintro e w' ⟨rfl, ⟨nd, rfl⟩⟩))
 go_ret
 exact ⟨eQ_, dR_⟩
def r3_Form.f (a0 : Int) : Option (Int) := (some (([0, 1, 1, 1, 1, 1, 1, 1, 1, 1, 1, 1, 1, 1, 1, 1, 1, 1, 1, 1, 1, 2, 3, 4, 3, 5, 6, 7, 8, 9, 9, 8, 0, 0] : List Int) : List Int)).bind fun y196 => (if 0 ≤ a0 then (if a0 < (y196.length : Int) then (some (rd y196 a0)) else (none)) else (none))
theorem r3_Form.calls (a0 : Int) (r : Int) (w : World) (h : r3_Form.f a0 = some r) :
    Calls Try.prog 15 #[.int .i64 a0] w fun e w' => e = .returned (.int .i64 r) ∧ Below w.heap.size w w' := by
 have HB := aM_ (Below.refl w.heap.size w)
 have H : ((some (([0, 1, 1, 1, 1, 1, 1, 1, 1, 1, 1, 1, 1, 1, 1, 1, 1, 1, 1, 1, 1, 2, 3, 4, 3, 5, 6, 7, 8, 9, 9, 8, 0, 0] : List Int) : List Int)).bind fun y196 => (if 0 ≤ a0 then (if a0 < (y196.length : Int) then (some (rd y196 a0)) else (none)) else (none))) = some r := h
 clear h
 obtain ⟨y196, hy196⟩ : ∃ y_ : List Int, y_ = (([0, 1, 1, 1, 1, 1, 1, 1, 1, 1, 1, 1, 1, 1, 1, 1, 1, 1, 1, 1, 1, 2, 3, 4, 3, 5, 6, 7, 8, 9, 9, 8, 0, 0] : List Int)) := ⟨_, rfl⟩
 replace H : (if 0 ≤ a0 then (if a0 < (y196.length : Int) then (some (rd y196 a0)) else (none)) else (none)) = some r := by first | (rw [hy196]; with_reducible exact H) | (have H2_ := (Option.bind_some _ _).symm.trans H; rw [hy196]; with_reducible exact H2_) | (have H2_ := (Option.bind_some _ _).symm.trans H; with_reducible exact H2_) | with_reducible exact H | (rw [hy196]; exact H) | exact H
 have Ny196 := aM_ hy196
 clear hy196
 by_cases c2 : 0 ≤ a0
 ·rw [if_pos c2] at H
  have c2b0 := dE_ c2
  clear c2
  by_cases c3 : a0 < (y196.length : Int)
  ·rw [if_pos c3] at H
   have c3b0 := dE_ c3
   clear c3
   obtain rfl := oI_ H
   go_enter Try.func15, Try.ntmps15
   go_wp2_with (first | ((with_reducible refine gate_dst (N := 3) rfl ?_); refine Kd.R_lit (Kd.int .i64) _ 3 ?hg (N := 3) ?hd (xs := ([0, 1, 1, 1, 1, 1, 1, 1, 1, 1, 1, 1, 1, 1, 1, 1, 1, 1, 1, 1, 1, 2, 3, 4, 3, 5, 6, 7, 8, 9, 9, 8, 0, 0] : List Int)) (inner := [.int .i64 0, .int .i64 1, .int .i64 1, .int .i64 1, .int .i64 1, .int .i64 1, .int .i64 1, .int .i64 1, .int .i64 1, .int .i64 1, .int .i64 1, .int .i64 1, .int .i64 1, .int .i64 1, .int .i64 1, .int .i64 1, .int .i64 1, .int .i64 1, .int .i64 1, .int .i64 1, .int .i64 1, .int .i64 2, .int .i64 3, .int .i64 4, .int .i64 3, .int .i64 5, .int .i64 6, .int .i64 7, .int .i64 8, .int .i64 9, .int .i64 9, .int .i64 8, .int .i64 0, .int .i64 0]) (ok := fun _ => True) (okp := fun _ => True) ?hr ?hp (fun _ hk => hk) trivial (Below.refl _ _) (Nat.le_refl _) (by simp) ?_; (case hd => rfl); (case hg => rfl); (case hr => first | (go_simp; done) | (go_simp; rfl)); (case hp => exact (Reps.one (show Kd.M (Kd.int .i64) _ _ _ 0 [.int .i64 0] from rfl) (Reps.one (show Kd.M (Kd.int .i64) _ _ _ 1 [.int .i64 1] from rfl) (Reps.one (show Kd.M (Kd.int .i64) _ _ _ 1 [.int .i64 1] from rfl) (Reps.one (show Kd.M (Kd.int .i64) _ _ _ 1 [.int .i64 1] from rfl) (Reps.one (show Kd.M (Kd.int .i64) _ _ _ 1 [.int .i64 1] from rfl) (Reps.one (show Kd.M (Kd.int .i64) _ _ _ 1 [.int .i64 1] from rfl) (Reps.one (show Kd.M (Kd.int .i64) _ _ _ 1 [.int .i64 1] from rfl) (Reps.one (show Kd.M (Kd.int .i64) _ _ _ 1 [.int .i64 1] from rfl) (Reps.one (show Kd.M (Kd.int .i64) _ _ _ 1 [.int .i64 1] from rfl) (Reps.one (show Kd.M (Kd.int .i64) _ _ _ 1 [.int .i64 1] from rfl) (Reps.one (show Kd.M (Kd.int .i64) _ _ _ 1 [.int .i64 1] from rfl) (Reps.one (show Kd.M (Kd.int .i64) _ _ _ 1 [.int .i64 1] from rfl) (Reps.one (show Kd.M (Kd.int .i64) _ _ _ 1 [.int .i64 1] from rfl) (Reps.one (show Kd.M (Kd.int .i64) _ _ _ 1 [.int .i64 1] from rfl) (Reps.one (show Kd.M (Kd.int .i64) _ _ _ 1 [.int .i64 1] from rfl) (Reps.one (show Kd.M (Kd.int .i64) _ _ _ 1 [.int .i64 1] from rfl) (Reps.one (show Kd.M (Kd.int .i64) _ _ _ 1 [.int .i64 1] from rfl) (Reps.one (show Kd.M (Kd.int .i64) _ _ _ 1 [.int .i64 1] from rfl) (Reps.one (show Kd.M (Kd.int .i64) _ _ _ 1 [.int .i64 1] from rfl) (Reps.one (show Kd.M (Kd.int .i64) _ _ _ 1 [.int .i64 1] from rfl) (Reps.one (show Kd.M (Kd.int .i64) _ _ _ 1 [.int .i64 1] from rfl) (Reps.one (show Kd.M (Kd.int .i64) _ _ _ 2 [.int .i64 2] from rfl) (Reps.one (show Kd.M (Kd.int .i64) _ _ _ 3 [.int .i64 3] from rfl) (Reps.one (show Kd.M (Kd.int .i64) _ _ _ 4 [.int .i64 4] from rfl) (Reps.one (show Kd.M (Kd.int .i64) _ _ _ 3 [.int .i64 3] from rfl) (Reps.one (show Kd.M (Kd.int .i64) _ _ _ 5 [.int .i64 5] from rfl) (Reps.one (show Kd.M (Kd.int .i64) _ _ _ 6 [.int .i64 6] from rfl) (Reps.one (show Kd.M (Kd.int .i64) _ _ _ 7 [.int .i64 7] from rfl) (Reps.one (show Kd.M (Kd.int .i64) _ _ _ 8 [.int .i64 8] from rfl) (Reps.one (show Kd.M (Kd.int .i64) _ _ _ 9 [.int .i64 9] from rfl) (Reps.one (show Kd.M (Kd.int .i64) _ _ _ 9 [.int .i64 9] from rfl) (Reps.one (show Kd.M (Kd.int .i64) _ _ _ 8 [.int .i64 8] from rfl) (Reps.one (show Kd.M (Kd.int .i64) _ _ _ 0 [.int .i64 0] from rfl) (Reps.one (show Kd.M (Kd.int .i64) _ _ _ 0 [.int .i64 0] from rfl) (Reps.none _ _)))))))))))))))))))))))))))))))))))); intro v197 w4 ho5 hb hg_ hnew_; clear hg_ hnew_; (first | rw [← Ny196.out] at ho5 | (simp only [Int.reduceToNat] at ho5; rw [← Ny196.out] at ho5)); replace HO198 := aM_ (Kd.R_lower ho5 (bY_ (bl_ HB))); replace HB := aM_ (bT_ (bl_ HB) hb); clear hb ho5; obtain ⟨Ao6, co6, eo6⟩ := Kd.R_slice HO198.out; subst eo6; have p199 : 0 ≤ (a0 : Int) := oD_; have q199 : a0 < (y196.length : Int) := oD_; obtain ⟨ad199, e199, hx199_0⟩ := Kd.at_int (Kd.R_reads' HO198.out).2.2 a0 p199 q199; cases e199; replace p199 := eq_true p199; replace q199 := eq_true q199))
   go_ret
   exact ⟨eR_, bl_ HB⟩
  rw [if_neg c3] at H
  exact absurd H (by simp)
 rw [if_neg c2] at H
 exact absurd H (by simp)
def r3_HasD.f (a0 : Int) : Option (Bool) := (r0_Between.f a0 1 4).bind fun t200 => (if t200 = true then (some true) else (some (a0 == 6)))
theorem r3_HasD.calls (a0 : Int) (r : Bool) (w : World) (h : r3_HasD.f a0 = some r) :
    Calls Try.prog 16 #[.int .i64 a0] w fun e w' => e = .returned (.bool r) ∧ Dr_ w w' := by
 have H : ((r0_Between.f a0 1 4).bind fun t200 => (if t200 = true then (some true) else (some (a0 == 6)))) = some r := h
 clear h
 replace H := oB_ H
 obtain ⟨t200, A2, H⟩ := H
 by_cases c3 : t200 = true
 ·subst c3
  rw [if_pos rfl] at H
  obtain rfl := oI_ H
  go_enter Try.func16, Try.ntmps16
  go_wp2_with (first | ((with_reducible refine gC_ (f := 54) rfl ?_); refine gL_ (some 4) Try.func54 #[.int .i64 a0, .int .i64 1, .int .i64 4] rfl ?_; (with_reducible refine (r0_Between.calls a0 1 4 true _ A2.out).mono ?_); rintro e w' ⟨rfl, ⟨nd, rfl⟩⟩; refine ⟨_, rfl, ?_⟩))
  go_ret
  exact ⟨eQ_, dR_⟩
 replace c3 := eF_ c3
 subst c3
 rw [if_neg Bool.false_ne_true] at H
 obtain rfl := oI_ H
 go_enter Try.func16, Try.ntmps16
 go_wp2_with (first | ((with_reducible refine gC_ (f := 54) rfl ?_); refine gL_ (some 4) Try.func54 #[.int .i64 a0, .int .i64 1, .int .i64 4] rfl ?_; (with_reducible refine (r0_Between.calls a0 1 4 false _ A2.out).mono ?_); rintro e w' ⟨rfl, ⟨nd, rfl⟩⟩; refine ⟨_, rfl, ?_⟩))
 go_ret
 exact ⟨eQ_, dR_⟩
def r3_Writes.f (a0_0 : Int) (a0_1 : Int) (a0_2 : Int) (a0_3 : Int) (a0_4 : Int) (a0_5 : ByteArray) : Option (Int) := (r3_Form.f a0_0).bind fun t202 => ((r3_HasD.f t202).bind fun t203 => (if t203 = true then (some a0_1) else (some (-1))))
theorem r3_Writes.calls (a0_0 : Int) (a0_1 : Int) (a0_2 : Int) (a0_3 : Int) (a0_4 : Int) (a0_5 : ByteArray) (r : Int) (w : World) (h : r3_Writes.f a0_0 a0_1 a0_2 a0_3 a0_4 a0_5 = some r) :
    Calls Try.prog 71 #[.agg #[.int .i64 a0_0, .int .i64 a0_1, .int .i64 a0_2, .int .i64 a0_3, .int .i64 a0_4, .string a0_5]] w fun e w' => e = .returned (.int .i64 r) ∧ Below w.heap.size w w' := by
 have hu24 := Try.underlying24
 have HB := aM_ (Below.refl w.heap.size w)
 have H : ((r3_Form.f a0_0).bind fun t202 => ((r3_HasD.f t202).bind fun t203 => (if t203 = true then (some a0_1) else (some (-1))))) = some r := h
 clear h
 replace H := oB_ H
 obtain ⟨t202, A2, H⟩ := H
 replace H := oB_ H
 obtain ⟨t203, A3, H⟩ := H
 by_cases c4 : t203 = true
 ·subst c4
  rw [if_pos rfl] at H
  obtain rfl := oI_ H
  go_enter Try.func71, Try.ntmps71
  go_wp2_with (first | ((with_reducible refine gate_dst (N := 1) rfl ?_); refine bX_ (N := 1) (cs := #[.int .i64 a0_0, .int .i64 a0_1, .int .i64 a0_2, .int .i64 a0_3, .int .i64 a0_4, .string a0_5]) (t := 24) ?_; intro gb201 hg w5 hbox hb; replace BK201 := aM_ (hbox); replace GW201 := aM_ (gE_ hg (bl_ HB)); replace GE201 := aM_ (gE_ hg (bl_ HB)); replace HB := aM_ (bT_ (bl_ HB) hb); clear hb hbox hg; obtain ⟨hcz6_0, hcz6_1, hcz6_2, hcz6_3, hcz6_4, hcz6_5⟩ := cl6_ BK201.out; obtain ⟨hfz6_0, hfz6_1, hfz6_2, hfz6_3, hfz6_4, hfz6_5⟩ := fz6_ BK201.out) | ((with_reducible refine gC_ (f := 15) rfl ?_); refine gL_ (some 5) Try.func15 #[.int .i64 a0_0] rfl ?_; (with_reducible refine (r3_Form.calls a0_0 t202 _ A2.out).mono ?_); rintro e w7 ⟨rfl, hb⟩; refine ⟨_, rfl, ?_⟩; replace BK201 := aM_ (kB_ (rB_ BK201) hb); replace HB := aM_ (bT_ (bs_ HB GE201) hb)) | ((with_reducible refine gC_ (f := 16) rfl ?_); refine gL_ (some 6) Try.func16 #[.int .i64 t202] rfl ?_; (with_reducible refine (r3_HasD.calls t202 true _ A3.out).mono ?_); rintro e w' ⟨rfl, ⟨nd, rfl⟩⟩; refine ⟨_, rfl, ?_⟩; obtain ⟨hcz8_0, hcz8_1, hcz8_2, hcz8_3, hcz8_4, hcz8_5⟩ := cl6_ BK201.out; obtain ⟨hfz8_0, hfz8_1, hfz8_2, hfz8_3, hfz8_4, hfz8_5⟩ := fz6_ BK201.out))
  go_ret
  exact ⟨eR_, bs_ HB GE201⟩
 replace c4 := eF_ c4
 subst c4
 rw [if_neg Bool.false_ne_true] at H
 obtain rfl := oI_ H
 go_enter Try.func71, Try.ntmps71
 go_wp2_with (first | ((with_reducible refine gate_dst (N := 1) rfl ?_); refine bX_ (N := 1) (cs := #[.int .i64 a0_0, .int .i64 a0_1, .int .i64 a0_2, .int .i64 a0_3, .int .i64 a0_4, .string a0_5]) (t := 24) ?_; intro gb201 hg w9 hbox hb; replace BK201 := aM_ (hbox); replace GW201 := aM_ (gE_ hg (bl_ HB)); replace GE201 := aM_ (gE_ hg (bl_ HB)); replace HB := aM_ (bT_ (bl_ HB) hb); clear hb hbox hg; obtain ⟨hcz10_0, hcz10_1, hcz10_2, hcz10_3, hcz10_4, hcz10_5⟩ := cl6_ BK201.out; obtain ⟨hfz10_0, hfz10_1, hfz10_2, hfz10_3, hfz10_4, hfz10_5⟩ := fz6_ BK201.out) | ((with_reducible refine gC_ (f := 15) rfl ?_); refine gL_ (some 5) Try.func15 #[.int .i64 a0_0] rfl ?_; (with_reducible refine (r3_Form.calls a0_0 t202 _ A2.out).mono ?_); rintro e w11 ⟨rfl, hb⟩; refine ⟨_, rfl, ?_⟩; replace BK201 := aM_ (kB_ (rB_ BK201) hb); replace HB := aM_ (bT_ (bs_ HB GE201) hb)) | ((with_reducible refine gC_ (f := 16) rfl ?_); refine gL_ (some 6) Try.func16 #[.int .i64 t202] rfl ?_; (with_reducible refine (r3_HasD.calls t202 false _ A3.out).mono ?_); rintro e w' ⟨rfl, ⟨nd, rfl⟩⟩; refine ⟨_, rfl, ?_⟩))
 go_ret
 exact ⟨eR_, bs_ HB GE201⟩
def r0_In.l0 : Nat → List Int → Int → Int → Option (Int)
  | 0, _, _, _ => none
  | k + 1, x0, x1, x5 => if x5 < (x0.length : Int) then (if 0 ≤ x5 then (if (rd x0 x5) = x1 then (some x5) else (r0_In.l0 k x0 x1 (wrap64 (x5 + 1)))) else (none)) else (some (-1))
def r0_In.f (k : Nat) (l0 : List Int) (a1 : Int) : Option (Int) := r0_In.l0 k l0 a1 0
theorem r0_In.mono_l : ∀ k, (∀ y0 y1 y2, LeO (r0_In.l0 k y0 y1 y2) (r0_In.l0 (k + 1) y0 y1 y2))
  | 0 => fun _ _ _ r h => by simp [r0_In.l0] at h
  | k + 1 => by
    have ih0 := r0_In.mono_l k
    · intro y0 y1 y2
      unfold r0_In.l0
      repeat' first
      | (with_reducible exact ih0 _ _ _)
      | (with_reducible exact LeO.refl _)
      | (with_reducible exact LeO.none _)
      | (with_reducible refine LeO.ite ?_ ?_)
      | (with_reducible refine LeO.bind ?_ (fun _ => ?_))
      | exact LeO.none _
      | refine LeO.ite ?_ ?_
      | refine LeO.bind ?_ (fun _ => ?_)
theorem r0_In.mono : ∀ a0 a1 k, LeO (r0_In.f k a0 a1) (r0_In.f (k + 1) a0 a1) := by
 intro a0 a1 k
 have ih0 := r0_In.mono_l k
 unfold r0_In.f
 repeat' first
  | (with_reducible exact ih0 _ _ _)
  | (with_reducible exact LeO.refl _)
  | (with_reducible exact LeO.none _)
  | (with_reducible refine LeO.ite ?_ ?_)
  | (with_reducible refine LeO.bind ?_ (fun _ => ?_))
  | exact LeO.none _
  | refine LeO.ite ?_ ?_
  | refine LeO.bind ?_ (fun _ => ?_)
theorem r0_In.calls (k : Nat) (A0 : Option Addr) (c0 : Nat) (l0 : List Int) (a1 : Int) (r : Int) (w : World) (hr0 : Kd.C (Kd.int .i64) w A0 l0.length l0) (hc0 : l0.length ≤ c0) (h : r0_In.f k l0 a1 = some r) :
    Calls Try.prog 72 #[.slice A0 l0.length c0, .int .i64 a1] w fun e w' => e = .returned (.int .i64 r) ∧ Dr_ w w' := by
 have HR0 := aM_ hr0
 have HC0 := aM_ hc0
 clear hr0 hc0
 have H : (r0_In.l0 k l0 a1 0) = some r := h
 clear h
 replace H := aM_ H
 go_enter Try.func72, Try.ntmps72
 go_wp2
 go_loopg [5] k (fun kq v5 w' => ∃ (x5_1 : Int), v5 = .int .i64 x5_1 ∧ As_ (r0_In.l0 kq l0 a1 x5_1 = some r) ∧ As_ (kq ≤ k) ∧ Dr_ w w')
 case atStart => exact ⟨(0), eQ_, H, ⟨Nat.le_refl _⟩, dR_⟩
 case round =>
  clear H
  obtain ⟨x5_1, rfl, HA, HK1, ⟨m1, rfl⟩⟩ := hrel
  cases gk with
  | zero => exact absurd HA.out (by simp [r0_In.l0])
  | succ k1 =>
   have H := HA.out
   clear HA
   simp only [r0_In.l0] at H
   by_cases c3 : x5_1 < (l0.length : Int)
   ·rw [if_pos c3] at H
    have c3b0 := dE_ c3
    clear c3
    by_cases c4 : 0 ≤ x5_1
    ·rw [if_pos c4] at H
     have c4b0 := dE_ c4
     clear c4
     by_cases c5 : (rd l0 x5_1) = a1
     ·rw [if_pos c5] at H
      have c5b0 := bH_ c5
      have c5b1 := bF_ c5
      clear c5
      obtain rfl := oI_ H
      have p204 : 0 ≤ (x5_1 : Int) := oD_
      have q204 : x5_1 < (l0.length : Int) := oD_
      obtain ⟨ad204, e204, hx204_0⟩ := Kd.at_int HR0.out x5_1 p204 q204
      cases e204
      replace p204 := eq_true p204
      replace q204 := eq_true q204
      go_wp2
      go_ret
      exact ⟨eQ_, dR_⟩
     rw [if_neg c5] at H
     have c5b0 := bE_ c5
     have c5b1 := bG_ c5
     replace H := aM_ H
     have p204 : 0 ≤ (x5_1 : Int) := oD_
     have q204 : x5_1 < (l0.length : Int) := oD_
     obtain ⟨ad204, e204, hx204_0⟩ := Kd.at_int HR0.out x5_1 p204 q204
     cases e204
     replace p204 := eq_true p204
     replace q204 := eq_true q204
     go_wp2
     go_roundg k1
     case measure => have := HK1.out; omega
     case rel => exact ⟨(wrap64 (x5_1 + 1)), eQ_, H, ⟨by have := HK1.out; omega⟩, dR_⟩
    rw [if_neg c4] at H
    exact absurd H (by simp)
   rw [if_neg c3] at H
   have c3b0 := dF_ c3
   clear c3
   obtain rfl := oI_ H
   go_wp2
   go_ret
   exact ⟨eQ_, dR_⟩
def r3_HasA.f (a0 : Int) : Option (Bool) := (r0_Between.f a0 1 3).bind fun t205 => (if t205 = true then (some true) else (if a0 = 5 then (some true) else (if a0 = 7 then (some true) else (some (a0 == 9)))))
theorem r3_HasA.calls (a0 : Int) (r : Bool) (w : World) (h : r3_HasA.f a0 = some r) :
    Calls Try.prog 17 #[.int .i64 a0] w fun e w' => e = .returned (.bool r) ∧ Dr_ w w' := by
 have H : ((r0_Between.f a0 1 3).bind fun t205 => (if t205 = true then (some true) else (if a0 = 5 then (some true) else (if a0 = 7 then (some true) else (some (a0 == 9)))))) = some r := h
 clear h
 replace H := oB_ H
 obtain ⟨t205, A2, H⟩ := H
 by_cases c3 : t205 = true
 ·subst c3
  rw [if_pos rfl] at H
  obtain rfl := oI_ H
  go_enter Try.func17, Try.ntmps17
  go_wp2_with (first | ((with_reducible refine gC_ (f := 54) rfl ?_); refine gL_ (some 4) Try.func54 #[.int .i64 a0, .int .i64 1, .int .i64 3] rfl ?_; (with_reducible refine (r0_Between.calls a0 1 3 true _ A2.out).mono ?_); rintro e w' ⟨rfl, ⟨nd, rfl⟩⟩; refine ⟨_, rfl, ?_⟩))
  go_ret
  exact ⟨eQ_, dR_⟩
 replace c3 := eF_ c3
 subst c3
 rw [if_neg Bool.false_ne_true] at H
 by_cases c4 : a0 = 5
 ·rw [if_pos c4] at H
  have c4b0 := bH_ c4
  have c4b1 := bF_ c4
  clear c4
  obtain rfl := oI_ H
  go_enter Try.func17, Try.ntmps17
  go_wp2_with (first | ((with_reducible refine gC_ (f := 54) rfl ?_); refine gL_ (some 4) Try.func54 #[.int .i64 a0, .int .i64 1, .int .i64 3] rfl ?_; (with_reducible refine (r0_Between.calls a0 1 3 false _ A2.out).mono ?_); rintro e w' ⟨rfl, ⟨nd, rfl⟩⟩; refine ⟨_, rfl, ?_⟩))
  go_ret
  exact ⟨eQ_, dR_⟩
 rw [if_neg c4] at H
 have c4b0 := bE_ c4
 have c4b1 := bG_ c4
 by_cases c5 : a0 = 7
 ·rw [if_pos c5] at H
  have c5b0 := bH_ c5
  have c5b1 := bF_ c5
  clear c5
  obtain rfl := oI_ H
  go_enter Try.func17, Try.ntmps17
  go_wp2_with (first | ((with_reducible refine gC_ (f := 54) rfl ?_); refine gL_ (some 4) Try.func54 #[.int .i64 a0, .int .i64 1, .int .i64 3] rfl ?_; (with_reducible refine (r0_Between.calls a0 1 3 false _ A2.out).mono ?_); rintro e w' ⟨rfl, ⟨nd, rfl⟩⟩; refine ⟨_, rfl, ?_⟩))
  go_ret
  exact ⟨eQ_, dR_⟩
 rw [if_neg c5] at H
 have c5b0 := bE_ c5
 have c5b1 := bG_ c5
 obtain rfl := oI_ H
 go_enter Try.func17, Try.ntmps17
 go_wp2_with (first | ((with_reducible refine gC_ (f := 54) rfl ?_); refine gL_ (some 4) Try.func54 #[.int .i64 a0, .int .i64 1, .int .i64 3] rfl ?_; (with_reducible refine (r0_Between.calls a0 1 3 false _ A2.out).mono ?_); rintro e w' ⟨rfl, ⟨nd, rfl⟩⟩; refine ⟨_, rfl, ?_⟩))
 go_ret
 exact ⟨eQ_, dR_⟩
def r3_HasB.f (a0 : Int) : Option (Bool) := if a0 = 1 then (some true) else (some (a0 == 5))
theorem r3_HasB.calls (a0 : Int) (r : Bool) (w : World) (h : r3_HasB.f a0 = some r) :
    Calls Try.prog 18 #[.int .i64 a0] w fun e w' => e = .returned (.bool r) ∧ Dr_ w w' := by
 have H : (if a0 = 1 then (some true) else (some (a0 == 5))) = some r := h
 clear h
 by_cases c2 : a0 = 1
 ·rw [if_pos c2] at H
  have c2b0 := bH_ c2
  have c2b1 := bF_ c2
  clear c2
  obtain rfl := oI_ H
  go_enter Try.func18, Try.ntmps18
  go_wp2
  go_ret
  exact ⟨eQ_, dR_⟩
 rw [if_neg c2] at H
 have c2b0 := bE_ c2
 have c2b1 := bG_ c2
 obtain rfl := oI_ H
 go_enter Try.func18, Try.ntmps18
 go_wp2
 go_ret
 exact ⟨eQ_, dR_⟩
def r3_Reads.j0 : Nat → List Int → Int → Int → Int → Int → Int → Int → ByteArray → Option (List Int)
  | 0, _, _, _, _, _, _, _, _ => none
  | k + 1, x3, x4, x207a, x207b, x207c, x207d, x207e, x207f => (r3_HasB.f x4).bind fun t212 => (if t212 = true then (if x3.length < 17592186044416 then (some (x3 ++ [x207d])) else (none)) else (some x3))
def r3_Reads.f (k : Nat) (a0_0 : Int) (a0_1 : Int) (a0_2 : Int) (a0_3 : Int) (a0_4 : Int) (a0_5 : ByteArray) : Option (List Int) := (r3_Form.f a0_0).bind fun t207 => ((r3_HasA.f t207).bind fun t208 => (if t208 = true then (if ([] : List Int).length < 17592186044416 then (r3_Reads.j0 k (([] : List Int) ++ [a0_2]) t207 a0_0 a0_1 a0_2 a0_3 a0_4 a0_5) else (none)) else (r3_Reads.j0 k ([] : List Int) t207 a0_0 a0_1 a0_2 a0_3 a0_4 a0_5)))
theorem r3_Reads.calls (k : Nat) (a0_0 : Int) (a0_1 : Int) (a0_2 : Int) (a0_3 : Int) (a0_4 : Int) (a0_5 : ByteArray) (r : List Int) (w : World) (h : r3_Reads.f k a0_0 a0_1 a0_2 a0_3 a0_4 a0_5 = some r) :
    Calls Try.prog 73 #[.agg #[.int .i64 a0_0, .int .i64 a0_1, .int .i64 a0_2, .int .i64 a0_3, .int .i64 a0_4, .string a0_5]] w fun e w' => ∃ v0_ : Value, e = .returned (v0_) ∧ Kd.R (Kd.int .i64) 3 w' w.heap.size (fun _ => True) v0_ r ∧ Below w.heap.size w w' := by
 have hu24 := Try.underlying24
 have HB := aM_ (Below.refl w.heap.size w)
 have H : ((r3_Form.f a0_0).bind fun t207 => ((r3_HasA.f t207).bind fun t208 => (if t208 = true then (if ([] : List Int).length < 17592186044416 then (r3_Reads.j0 k (([] : List Int) ++ [a0_2]) t207 a0_0 a0_1 a0_2 a0_3 a0_4 a0_5) else (none)) else (r3_Reads.j0 k ([] : List Int) t207 a0_0 a0_1 a0_2 a0_3 a0_4 a0_5)))) = some r := h
 clear h
 replace H := oB_ H
 obtain ⟨t207, A2, H⟩ := H
 replace H := oB_ H
 obtain ⟨t208, A3, H⟩ := H
 have HC4 := aM_ H
 clear H
 go_enter Try.func73, Try.ntmps73
 go_upto_if 9 with (first | ((with_reducible refine gate_dst (N := 1) rfl ?_); refine bX_ (N := 1) (cs := #[.int .i64 a0_0, .int .i64 a0_1, .int .i64 a0_2, .int .i64 a0_3, .int .i64 a0_4, .string a0_5]) (t := 24) ?_; intro gb206 hg w5 hbox hb; replace BK206 := aM_ (hbox); replace GW206 := aM_ (gE_ hg (bl_ HB)); replace GE206 := aM_ (gE_ hg (bl_ HB)); replace HB := aM_ (bT_ (bl_ HB) hb); clear hb hbox hg; obtain ⟨hcz6_0, hcz6_1, hcz6_2, hcz6_3, hcz6_4, hcz6_5⟩ := cl6_ BK206.out; obtain ⟨hfz6_0, hfz6_1, hfz6_2, hfz6_3, hfz6_4, hfz6_5⟩ := fz6_ BK206.out) | ((with_reducible refine gC_ (f := 15) rfl ?_); refine gL_ (some 7) Try.func15 #[.int .i64 a0_0] rfl ?_; (with_reducible refine (r3_Form.calls a0_0 t207 _ A2.out).mono ?_); rintro e w7 ⟨rfl, hb⟩; refine ⟨_, rfl, ?_⟩; replace BK206 := aM_ (kB_ (rB_ BK206) hb); replace HB := aM_ (bT_ (bs_ HB GE206) hb)) | ((with_reducible refine gC_ (f := 17) rfl ?_); refine gL_ (some 9) Try.func17 #[.int .i64 t207] rfl ?_; (with_reducible refine (r3_HasA.calls t207 t208 _ A3.out).mono ?_); rintro e w' ⟨rfl, ⟨nd, rfl⟩⟩; refine ⟨_, rfl, ?_⟩))
 (try simp only [Act.put, List.setIfInBounds_toArray, List.set_cons_zero, List.set_cons_succ])
 go_cut [3] (fun v3 wc => ∃ (kq : Nat) (x3_3 : List Int), As_ (r3_Reads.j0 kq x3_3 t207 a0_0 a0_1 a0_2 a0_3 a0_4 a0_5 = some r) ∧ As_ (kq ≤ k) ∧ As_ (Kd.R (Kd.int .i64) 3 wc w.heap.size (fun _ => True) v3 x3_3) ∧ As_ (wc.heap[gb206]? = some (.cells #[.int .i64 a0_0, .int .i64 a0_1, .int .i64 a0_2, .int .i64 a0_3, .int .i64 a0_4, .string a0_5] 24 (0, 0))) ∧ As_ (Below w.heap.size w wc))
 case first =>
  have H := HC4.out
  clear HC4
  by_cases c8 : t208 = true
  ·subst c8
   rw [if_pos rfl] at H
   by_cases c9 : ([] : List Int).length < 17592186044416
   ·rw [if_pos c9] at H
    have LMc9 := aM_ c9
    clear c9
    obtain ⟨y209, hy209⟩ : ∃ y_ : List Int, y_ = (([] : List Int) ++ [a0_2]) := ⟨_, rfl⟩
    replace H : (r3_Reads.j0 k y209 t207 a0_0 a0_1 a0_2 a0_3 a0_4 a0_5) = some r := by first | (rw [hy209]; with_reducible exact H) | (have H2_ := (Option.bind_some _ _).symm.trans H; rw [hy209]; with_reducible exact H2_) | (have H2_ := (Option.bind_some _ _).symm.trans H; with_reducible exact H2_) | with_reducible exact H | (rw [hy209]; exact H) | exact H
    have Ny209 := aM_ hy209
    clear hy209
    replace H := aM_ H
    obtain ⟨hcz10_0, hcz10_1, hcz10_2, hcz10_3, hcz10_4, hcz10_5⟩ := cl6_ BK206.out
    obtain ⟨hfz10_0, hfz10_1, hfz10_2, hfz10_3, hfz10_4, hfz10_5⟩ := fz6_ BK206.out
    go_wp2_with (first | ((with_reducible refine gate_builtin (b := .append) (xs := #[.tmp 10, .tmp 13]) rfl ?_); at_builtin; refine Kd.R_append (Kd.int .i64) (w0 := w) w.heap.size rfl (.tmp 10) (.tmp 13) 25 3 (.int .i64 0) 8 rfl Try.underlying25 info3 rfl (by decide) (by omega) (.slice none 0 0) ([] : List Int) a0_2 [.int .i64 a0_2] (fun _ => True) (fun _ => False) rfl rfl ?aP (fun _ hk => hk.elim) ?aF ?aO ?aB ?aS ?aL ?_; (case aP => exact rfl); (case aB => exact (bs_ HB GE206)); (case aF => exact (fun _ _ => trivial)); (case aO => exact ((Kd.R_nil _ _ _ _ (fun _ => True)))); (case aS => exact (bY_ (bs_ HB GE206))); (case aL => have := LMc9.out; omega); intro v210 w11 ho hb hg hat; rw [← Ny209.out] at ho; replace BK206 := aM_ (blk_grown (g := gb206) (o := .cells #[.int .i64 a0_0, .int .i64 a0_1, .int .i64 a0_2, .int .i64 a0_3, .int .i64 a0_4, .string a0_5] 24 (0, 0)) (rB_ BK206) hg (by simp [Value.ownBlock])); replace HB := aM_ (hb); replace HO211 := aM_ (ho); clear ho hb hg hat))
    go_meet
    case rel => exact ⟨_, (y209), H, ⟨by first | omega | exact Nat.le_refl _⟩, ⟨rR_ HO211⟩, ⟨rB_ BK206⟩, ⟨bs_ HB GE206⟩⟩
   rw [if_neg c9] at H
   exact absurd H (by simp)
  replace c8 := eF_ c8
  subst c8
  rw [if_neg Bool.false_ne_true] at H
  replace H := aM_ H
  go_wp2
  go_meet
  case rel => exact ⟨_, (([] : List Int)), H, ⟨by first | omega | exact Nat.le_refl _⟩, ⟨by first | exact Kd.R_nil _ _ _ _ _ | exact Kd.N_nil _ _ _ _ _ | exact Kd.V_nil _ _ _ _ _ | exact Kd.Q_nil _ _ _ _ _ | exact Kd.S_nil _ _ _ _ _⟩, ⟨rB_ BK206⟩, ⟨bs_ HB GE206⟩⟩
 case rest =>
  clear HC4
  obtain ⟨kq, x3_3, HA, HJ3, HO_3, BK206, HB⟩ := hcut
  cases kq with
  | zero => exact absurd HA.out (by simp [r3_Reads.j0])
  | succ kj3 =>
   have H := HA.out
   clear HA
   simp only [r3_Reads.j0] at H
   replace H := oB_ H
   obtain ⟨t212, A12, H⟩ := H
   by_cases c13 : t212 = true
   ·subst c13
    rw [if_pos rfl] at H
    by_cases c14 : x3_3.length < 17592186044416
    ·rw [if_pos c14] at H
     have LMc14 := aM_ c14
     clear c14
     obtain ⟨y213, hy213⟩ : ∃ y_ : List Int, y_ = (x3_3 ++ [a0_3]) := ⟨_, rfl⟩
     replace H : (some y213) = some r := by first | (rw [hy213]; with_reducible exact H) | (have H2_ := (Option.bind_some _ _).symm.trans H; rw [hy213]; with_reducible exact H2_) | (have H2_ := (Option.bind_some _ _).symm.trans H; with_reducible exact H2_) | with_reducible exact H | (rw [hy213]; exact H) | exact H
     have Ny213 := aM_ hy213
     clear hy213
     obtain rfl := oI_ H
     go_wp2_with (first | ((with_reducible refine gC_ (f := 18) rfl ?_); refine gL_ (some 16) Try.func18 #[.int .i64 t207] rfl ?_; (with_reducible refine (r3_HasB.calls t207 true _ A12.out).mono ?_); rintro e w' ⟨rfl, ⟨nd, rfl⟩⟩; refine ⟨_, rfl, ?_⟩; obtain ⟨hcz15_0, hcz15_1, hcz15_2, hcz15_3, hcz15_4, hcz15_5⟩ := cl6_ BK206.out; obtain ⟨hfz15_0, hfz15_1, hfz15_2, hfz15_3, hfz15_4, hfz15_5⟩ := fz6_ BK206.out) | ((with_reducible refine gate_builtin (b := .append) (xs := #[.tmp 17, .tmp 20]) rfl ?_); at_builtin; refine Kd.R_append (Kd.int .i64) (w0 := w) w.heap.size rfl (.tmp 17) (.tmp 20) 25 3 (.int .i64 0) 8 rfl Try.underlying25 info3 rfl (by decide) (by omega) u3 x3_3 a0_3 [.int .i64 a0_3] (fun _ => True) (fun _ => False) rfl rfl ?aP (fun _ hk => hk.elim) ?aF ?aO ?aB ?aS ?aL ?_; (case aP => exact rfl); (case aB => exact (bs_ HB GE206)); (case aF => exact (fun _ _ => trivial)); (case aO => exact (rR_ HO_3)); (case aS => exact (bY_ (bs_ HB GE206))); (case aL => have := LMc14.out; omega); intro v214 w16 ho hb hg hat; rw [← Ny213.out] at ho; replace BK206 := aM_ (blk_grown (g := gb206) (o := .cells #[.int .i64 a0_0, .int .i64 a0_1, .int .i64 a0_2, .int .i64 a0_3, .int .i64 a0_4, .string a0_5] 24 (0, 0)) (rB_ BK206) hg (Kd.R_ne HO_3.out BK206.out (by decide))); replace HB := aM_ (hb); replace HO215 := aM_ (ho); clear HO_3; clear ho hb hg hat))
     go_ret
     exact ⟨_, eR_, rR_ HO215, bs_ HB GE206⟩
    rw [if_neg c14] at H
    exact absurd H (by simp)
   replace c13 := eF_ c13
   subst c13
   rw [if_neg Bool.false_ne_true] at H
   obtain rfl := oI_ H
   go_wp2_with (first | ((with_reducible refine gC_ (f := 18) rfl ?_); refine gL_ (some 16) Try.func18 #[.int .i64 t207] rfl ?_; (with_reducible refine (r3_HasB.calls t207 false _ A12.out).mono ?_); rintro e w' ⟨rfl, ⟨nd, rfl⟩⟩; refine ⟨_, rfl, ?_⟩))
   go_ret
   exact ⟨_, eR_, rR_ HO_3, bs_ HB GE206⟩
end
section
attribute [local go_sem] max2_int min2_int max_two min_two max_three min_three max_four min_four
def isa_Is.f (a0 : Int) : Option (Bool) := if a0 ≥ 0 then (some (decide (a0 ≤ 33))) else (some false)
theorem isa_Is.calls (a0 : Int) (r : Bool) (w : World) (h : isa_Is.f a0 = some r) :
    Calls Try.prog 96 #[.int .i64 a0] w fun e w' => e = .returned (.bool r) ∧ Dr_ w w' := by
 have H : (if a0 ≥ 0 then (some (decide (a0 ≤ 33))) else (some false)) = some r := h
 clear h
 by_cases c2 : a0 ≥ 0
 ·rw [if_pos c2] at H
  have c2b0 := dE_ c2
  clear c2
  obtain rfl := oI_ H
  go_enter Try.func96, Try.ntmps96
  go_wp2
  go_ret
  exact ⟨eQ_, dR_⟩
 rw [if_neg c2] at H
 have c2b0 := dF_ c2
 clear c2
 obtain rfl := oI_ H
 go_enter Try.func96, Try.ntmps96
 go_wp2
 go_ret
 exact ⟨eQ_, dR_⟩
mutual
def isa_Shape.j0 : Nat → Int → Bool → Option (Int)
  | 0, _, _ => none
  | k + 1, x3, x6 => if x6 = true then (some 3) else (if x3 = 23 then (some 4) else (if x3 = 25 then (some 5) else (if x3 = 26 then (some 6) else (if x3 = 27 then (some 7) else (if x3 = 28 then (isa_Shape.j1 k x3 (x3 == 28)) else (isa_Shape.j1 k x3 (x3 == 31)))))))
def isa_Shape.j1 : Nat → Int → Bool → Option (Int)
  | 0, _, _ => none
  | k + 1, x3, x17 => if x17 = true then (some 8) else (if x3 = 29 then (isa_Shape.j2 k x3 (x3 == 29)) else (isa_Shape.j2 k x3 (x3 == 30)))
def isa_Shape.j2 : Nat → Int → Bool → Option (Int)
  | 0, _, _ => none
  | k + 1, x3, x20 => if x20 = true then (some 9) else (if x3 = 0 then (isa_Shape.j3 k (x3 == 0)) else (if x3 = 32 then (isa_Shape.j3 k (x3 == 32)) else (isa_Shape.j3 k (x3 == 33))))
def isa_Shape.j3 : Nat → Bool → Option (Int)
  | 0, _ => none
  | k + 1, x23 => if x23 = true then (some 0) else (some 1)
end
def isa_Shape.f (k : Nat) (a0 : Int) : Option (Int) := if a0 = 21 then (some 2) else (if a0 = 22 then (isa_Shape.j0 k a0 (a0 == 22)) else (isa_Shape.j0 k a0 (a0 == 24)))
theorem isa_Shape.mono_l : ∀ k, (∀ y0 y1, LeO (isa_Shape.j0 k y0 y1) (isa_Shape.j0 (k + 1) y0 y1)) ∧ (∀ y0 y1, LeO (isa_Shape.j1 k y0 y1) (isa_Shape.j1 (k + 1) y0 y1)) ∧ (∀ y0 y1, LeO (isa_Shape.j2 k y0 y1) (isa_Shape.j2 (k + 1) y0 y1)) ∧ (∀ y0, LeO (isa_Shape.j3 k y0) (isa_Shape.j3 (k + 1) y0))
  | 0 => ⟨fun _ _ r h => by simp [isa_Shape.j0] at h, fun _ _ r h => by simp [isa_Shape.j1] at h, fun _ _ r h => by simp [isa_Shape.j2] at h, fun _ r h => by simp [isa_Shape.j3] at h⟩
  | k + 1 => by
    obtain ⟨ih0, ih1, ih2, ih3⟩ := isa_Shape.mono_l k
    refine ⟨?_, ?_, ?_, ?_⟩
    · intro y0 y1
      unfold isa_Shape.j0
      repeat' first
      | (with_reducible exact ih0 _ _)
      | (with_reducible exact ih1 _ _)
      | (with_reducible exact ih2 _ _)
      | (with_reducible exact ih3 _)
      | (with_reducible exact LeO.refl _)
      | (with_reducible exact LeO.none _)
      | (with_reducible refine LeO.ite ?_ ?_)
      | (with_reducible refine LeO.bind ?_ (fun _ => ?_))
      | exact LeO.none _
      | refine LeO.ite ?_ ?_
      | refine LeO.bind ?_ (fun _ => ?_)
    · intro y0 y1
      unfold isa_Shape.j1
      repeat' first
      | (with_reducible exact ih0 _ _)
      | (with_reducible exact ih1 _ _)
      | (with_reducible exact ih2 _ _)
      | (with_reducible exact ih3 _)
      | (with_reducible exact LeO.refl _)
      | (with_reducible exact LeO.none _)
      | (with_reducible refine LeO.ite ?_ ?_)
      | (with_reducible refine LeO.bind ?_ (fun _ => ?_))
      | exact LeO.none _
      | refine LeO.ite ?_ ?_
      | refine LeO.bind ?_ (fun _ => ?_)
    · intro y0 y1
      unfold isa_Shape.j2
      repeat' first
      | (with_reducible exact ih0 _ _)
      | (with_reducible exact ih1 _ _)
      | (with_reducible exact ih2 _ _)
      | (with_reducible exact ih3 _)
      | (with_reducible exact LeO.refl _)
      | (with_reducible exact LeO.none _)
      | (with_reducible refine LeO.ite ?_ ?_)
      | (with_reducible refine LeO.bind ?_ (fun _ => ?_))
      | exact LeO.none _
      | refine LeO.ite ?_ ?_
      | refine LeO.bind ?_ (fun _ => ?_)
    · intro y0
      unfold isa_Shape.j3
      repeat' first
      | (with_reducible exact ih0 _ _)
      | (with_reducible exact ih1 _ _)
      | (with_reducible exact ih2 _ _)
      | (with_reducible exact ih3 _)
      | (with_reducible exact LeO.refl _)
      | (with_reducible exact LeO.none _)
      | (with_reducible refine LeO.ite ?_ ?_)
      | (with_reducible refine LeO.bind ?_ (fun _ => ?_))
      | exact LeO.none _
      | refine LeO.ite ?_ ?_
      | refine LeO.bind ?_ (fun _ => ?_)
theorem isa_Shape.mono : ∀ a0 k, LeO (isa_Shape.f k a0) (isa_Shape.f (k + 1) a0) := by
 intro a0 k
 obtain ⟨ih0, ih1, ih2, ih3⟩ := isa_Shape.mono_l k
 unfold isa_Shape.f
 repeat' first
  | (with_reducible exact ih0 _ _)
  | (with_reducible exact ih1 _ _)
  | (with_reducible exact ih2 _ _)
  | (with_reducible exact ih3 _)
  | (with_reducible exact LeO.refl _)
  | (with_reducible exact LeO.none _)
  | (with_reducible refine LeO.ite ?_ ?_)
  | (with_reducible refine LeO.bind ?_ (fun _ => ?_))
  | exact LeO.none _
  | refine LeO.ite ?_ ?_
  | refine LeO.bind ?_ (fun _ => ?_)
theorem isa_Shape.calls (k : Nat) (a0 : Int) (r : Int) (w : World) (h : isa_Shape.f k a0 = some r) :
    Calls Try.prog 97 #[.int .i64 a0] w fun e w' => e = .returned (.int .i64 r) ∧ Dr_ w w' := by
 have H : (if a0 = 21 then (some 2) else (if a0 = 22 then (isa_Shape.j0 k a0 (a0 == 22)) else (isa_Shape.j0 k a0 (a0 == 24)))) = some r := h
 clear h
 by_cases c2 : a0 = 21
 ·rw [if_pos c2] at H
  have c2b0 := bH_ c2
  have c2b1 := bF_ c2
  clear c2
  obtain rfl := oI_ H
  go_enter Try.func97, Try.ntmps97
  go_wp2
  go_ret
  exact ⟨eQ_, dR_⟩
 rw [if_neg c2] at H
 have c2b0 := bE_ c2
 have c2b1 := bG_ c2
 have HC3 := aM_ H
 clear H
 go_enter Try.func97, Try.ntmps97
 go_upto_if 6 with (fail)
 go_cut [6] (fun v6 wc => ∃ (kq : Nat) (x6_2 : Bool), v6 = .bool x6_2 ∧ As_ (isa_Shape.j0 kq a0 x6_2 = some r) ∧ As_ (kq ≤ k) ∧ Dr_ w wc)
 case first =>
  have H := HC3.out
  clear HC3
  by_cases c4 : a0 = 22
  ·rw [if_pos c4] at H
   have c4b0 := bH_ c4
   have c4b1 := bF_ c4
   clear c4
   (first | rw [c4b0] | (simp only [i64_w, i32_w]; rw [c4b0]) | skip)
   replace H := aM_ H
   go_wp2
   go_meet
   case rel => exact ⟨_, ((a0 == 22)), eQ_, H, ⟨by first | omega | exact Nat.le_refl _⟩, dR_⟩
  rw [if_neg c4] at H
  have c4b0 := bE_ c4
  have c4b1 := bG_ c4
  (first | rw [c4b0] | (simp only [i64_w, i32_w]; rw [c4b0]) | skip)
  replace H := aM_ H
  go_wp2
  go_meet
  case rel => exact ⟨_, ((a0 == 24)), eQ_, H, ⟨by first | omega | exact Nat.le_refl _⟩, dR_⟩
 case rest =>
  clear HC3
  obtain ⟨kq, x6_2, rfl, HA, HJ2, ⟨mc2, rfl⟩⟩ := hcut
  cases kq with
  | zero => exact absurd HA.out (by simp [isa_Shape.j0])
  | succ kj2 =>
   have H := HA.out
   clear HA
   simp only [isa_Shape.j0] at H
   by_cases c5 : x6_2 = true
   ·subst c5
    rw [if_pos rfl] at H
    obtain rfl := oI_ H
    go_wp2
    go_ret
    exact ⟨eQ_, dR_⟩
   replace c5 := eF_ c5
   subst c5
   rw [if_neg Bool.false_ne_true] at H
   by_cases c6 : a0 = 23
   ·rw [if_pos c6] at H
    have c6b0 := bH_ c6
    have c6b1 := bF_ c6
    clear c6
    obtain rfl := oI_ H
    go_wp2
    go_ret
    exact ⟨eQ_, dR_⟩
   rw [if_neg c6] at H
   have c6b0 := bE_ c6
   have c6b1 := bG_ c6
   by_cases c7 : a0 = 25
   ·rw [if_pos c7] at H
    have c7b0 := bH_ c7
    have c7b1 := bF_ c7
    clear c7
    obtain rfl := oI_ H
    go_wp2
    go_ret
    exact ⟨eQ_, dR_⟩
   rw [if_neg c7] at H
   have c7b0 := bE_ c7
   have c7b1 := bG_ c7
   by_cases c8 : a0 = 26
   ·rw [if_pos c8] at H
    have c8b0 := bH_ c8
    have c8b1 := bF_ c8
    clear c8
    obtain rfl := oI_ H
    go_wp2
    go_ret
    exact ⟨eQ_, dR_⟩
   rw [if_neg c8] at H
   have c8b0 := bE_ c8
   have c8b1 := bG_ c8
   by_cases c9 : a0 = 27
   ·rw [if_pos c9] at H
    have c9b0 := bH_ c9
    have c9b1 := bF_ c9
    clear c9
    obtain rfl := oI_ H
    go_wp2
    go_ret
    exact ⟨eQ_, dR_⟩
   rw [if_neg c9] at H
   have c9b0 := bE_ c9
   have c9b1 := bG_ c9
   have HC10 := aM_ H
   clear H
   go_upto_if 17 with (fail)
   go_cut [17] (fun v17 wc => ∃ (kq : Nat) (x17_9 : Bool), v17 = .bool x17_9 ∧ As_ (isa_Shape.j1 kq a0 x17_9 = some r) ∧ As_ (kq ≤ kj2) ∧ Dr_ w wc)
   case first =>
    have H := HC10.out
    clear HC10
    by_cases c11 : a0 = 28
    ·rw [if_pos c11] at H
     have c11b0 := bH_ c11
     have c11b1 := bF_ c11
     clear c11
     (first | rw [c11b0] | (simp only [i64_w, i32_w]; rw [c11b0]) | skip)
     replace H := aM_ H
     go_wp2
     go_meet
     case rel => exact ⟨_, ((a0 == 28)), eQ_, H, ⟨by have := HJ2.out; first | omega | exact Nat.le_refl _⟩, dR_⟩
    rw [if_neg c11] at H
    have c11b0 := bE_ c11
    have c11b1 := bG_ c11
    (first | rw [c11b0] | (simp only [i64_w, i32_w]; rw [c11b0]) | skip)
    replace H := aM_ H
    go_wp2
    go_meet
    case rel => exact ⟨_, ((a0 == 31)), eQ_, H, ⟨by have := HJ2.out; first | omega | exact Nat.le_refl _⟩, dR_⟩
   case rest =>
    clear HC10
    obtain ⟨kq, x17_9, rfl, HA, HJ9, ⟨mc9, rfl⟩⟩ := hcut
    cases kq with
    | zero => exact absurd HA.out (by simp [isa_Shape.j1])
    | succ kj9 =>
     have H := HA.out
     clear HA
     simp only [isa_Shape.j1] at H
     by_cases c12 : x17_9 = true
     ·subst c12
      rw [if_pos rfl] at H
      obtain rfl := oI_ H
      go_wp2
      go_ret
      exact ⟨eQ_, dR_⟩
     replace c12 := eF_ c12
     subst c12
     rw [if_neg Bool.false_ne_true] at H
     have HC13 := aM_ H
     clear H
     go_upto_if 20 with (fail)
     go_cut [20] (fun v20 wc => ∃ (kq : Nat) (x20_12 : Bool), v20 = .bool x20_12 ∧ As_ (isa_Shape.j2 kq a0 x20_12 = some r) ∧ As_ (kq ≤ kj9) ∧ Dr_ w wc)
     case first =>
      have H := HC13.out
      clear HC13
      by_cases c14 : a0 = 29
      ·rw [if_pos c14] at H
       have c14b0 := bH_ c14
       have c14b1 := bF_ c14
       clear c14
       (first | rw [c14b0] | (simp only [i64_w, i32_w]; rw [c14b0]) | skip)
       replace H := aM_ H
       go_wp2
       go_meet
       case rel => exact ⟨_, ((a0 == 29)), eQ_, H, ⟨by have := HJ2.out; have := HJ9.out; first | omega | exact Nat.le_refl _⟩, dR_⟩
      rw [if_neg c14] at H
      have c14b0 := bE_ c14
      have c14b1 := bG_ c14
      (first | rw [c14b0] | (simp only [i64_w, i32_w]; rw [c14b0]) | skip)
      replace H := aM_ H
      go_wp2
      go_meet
      case rel => exact ⟨_, ((a0 == 30)), eQ_, H, ⟨by have := HJ2.out; have := HJ9.out; first | omega | exact Nat.le_refl _⟩, dR_⟩
     case rest =>
      clear HC13
      obtain ⟨kq, x20_12, rfl, HA, HJ12, ⟨mc12, rfl⟩⟩ := hcut
      cases kq with
      | zero => exact absurd HA.out (by simp [isa_Shape.j2])
      | succ kj12 =>
       have H := HA.out
       clear HA
       simp only [isa_Shape.j2] at H
       by_cases c15 : x20_12 = true
       ·subst c15
        rw [if_pos rfl] at H
        obtain rfl := oI_ H
        go_wp2
        go_ret
        exact ⟨eQ_, dR_⟩
       replace c15 := eF_ c15
       subst c15
       rw [if_neg Bool.false_ne_true] at H
       have HC16 := aM_ H
       clear H
       go_upto_if 23 with (fail)
       go_cut [23] (fun v23 wc => ∃ (kq : Nat) (x23_15 : Bool), v23 = .bool x23_15 ∧ As_ (isa_Shape.j3 kq x23_15 = some r) ∧ As_ (kq ≤ kj12) ∧ Dr_ w wc)
       case first =>
        have H := HC16.out
        clear HC16
        by_cases c17 : a0 = 0
        ·rw [if_pos c17] at H
         have c17b0 := bH_ c17
         have c17b1 := bF_ c17
         clear c17
         (first | rw [c17b0] | (simp only [i64_w, i32_w]; rw [c17b0]) | skip)
         replace H := aM_ H
         go_wp2
         go_meet
         case rel => exact ⟨_, ((a0 == 0)), eQ_, H, ⟨by have := HJ2.out; have := HJ9.out; have := HJ12.out; first | omega | exact Nat.le_refl _⟩, dR_⟩
        rw [if_neg c17] at H
        have c17b0 := bE_ c17
        have c17b1 := bG_ c17
        (first | rw [c17b0] | (simp only [i64_w, i32_w]; rw [c17b0]) | skip)
        by_cases c18 : a0 = 32
        ·rw [if_pos c18] at H
         have c18b0 := bH_ c18
         have c18b1 := bF_ c18
         clear c18
         replace H := aM_ H
         go_wp2
         go_meet
         case rel => exact ⟨_, ((a0 == 32)), eQ_, H, ⟨by have := HJ2.out; have := HJ9.out; have := HJ12.out; first | omega | exact Nat.le_refl _⟩, dR_⟩
        rw [if_neg c18] at H
        have c18b0 := bE_ c18
        have c18b1 := bG_ c18
        replace H := aM_ H
        go_wp2
        go_meet
        case rel => exact ⟨_, ((a0 == 33)), eQ_, H, ⟨by have := HJ2.out; have := HJ9.out; have := HJ12.out; first | omega | exact Nat.le_refl _⟩, dR_⟩
       case rest =>
        clear HC16
        obtain ⟨kq, x23_15, rfl, HA, HJ15, ⟨mc15, rfl⟩⟩ := hcut
        cases kq with
        | zero => exact absurd HA.out (by simp [isa_Shape.j3])
        | succ kj15 =>
         have H := HA.out
         clear HA
         simp only [isa_Shape.j3] at H
         by_cases c19 : x23_15 = true
         ·subst c19
          rw [if_pos rfl] at H
          obtain rfl := oI_ H
          go_wp2
          go_ret
          exact ⟨eQ_, dR_⟩
         replace c19 := eF_ c19
         subst c19
         rw [if_neg Bool.false_ne_true] at H
         obtain rfl := oI_ H
         go_wp2
         go_ret
         exact ⟨eQ_, dR_⟩
def isa_reg.f (a0 : Bool) (a1 : Int) : Option (Bool) := if a1 = 0 then (some true) else (if a0 = true then (if a1 > 0 then (some (decide (a1 < 16))) else (some false)) else (some false))
theorem isa_reg.calls (a0 : Bool) (a1 : Int) (r : Bool) (w : World) (h : isa_reg.f a0 a1 = some r) :
    Calls Try.prog 98 #[.bool a0, .int .i64 a1] w fun e w' => e = .returned (.bool r) ∧ Dr_ w w' := by
 have H : (if a1 = 0 then (some true) else (if a0 = true then (if a1 > 0 then (some (decide (a1 < 16))) else (some false)) else (some false))) = some r := h
 clear h
 by_cases c3 : a1 = 0
 ·rw [if_pos c3] at H
  have c3b0 := bH_ c3
  have c3b1 := bF_ c3
  clear c3
  obtain rfl := oI_ H
  go_enter Try.func98, Try.ntmps98
  go_wp2
  go_ret
  exact ⟨eQ_, dR_⟩
 rw [if_neg c3] at H
 have c3b0 := bE_ c3
 have c3b1 := bG_ c3
 by_cases c4 : a0 = true
 ·subst c4
  rw [if_pos rfl] at H
  by_cases c5 : a1 > 0
  ·rw [if_pos c5] at H
   have c5b0 := dE_ c5
   clear c5
   obtain rfl := oI_ H
   go_enter Try.func98, Try.ntmps98
   go_wp2
   go_ret
   exact ⟨eQ_, dR_⟩
  rw [if_neg c5] at H
  have c5b0 := dF_ c5
  clear c5
  obtain rfl := oI_ H
  go_enter Try.func98, Try.ntmps98
  go_wp2
  go_ret
  exact ⟨eQ_, dR_⟩
 replace c4 := eF_ c4
 subst c4
 rw [if_neg Bool.false_ne_true] at H
 obtain rfl := oI_ H
 go_enter Try.func98, Try.ntmps98
 go_wp2
 go_ret
 exact ⟨eQ_, dR_⟩
def isa_HasD.f (a0 : Int) : Option (Bool) := if a0 ≥ 1 then (if a0 ≤ 4 then (some true) else (some (a0 == 6))) else (some (a0 == 6))
theorem isa_HasD.calls (a0 : Int) (r : Bool) (w : World) (h : isa_HasD.f a0 = some r) :
    Calls Try.prog 99 #[.int .i64 a0] w fun e w' => e = .returned (.bool r) ∧ Dr_ w w' := by
 have H : (if a0 ≥ 1 then (if a0 ≤ 4 then (some true) else (some (a0 == 6))) else (some (a0 == 6))) = some r := h
 clear h
 by_cases c2 : a0 ≥ 1
 ·rw [if_pos c2] at H
  have c2b0 := dE_ c2
  clear c2
  by_cases c3 : a0 ≤ 4
  ·rw [if_pos c3] at H
   have c3b0 := dE_ c3
   clear c3
   obtain rfl := oI_ H
   go_enter Try.func99, Try.ntmps99
   go_wp2
   go_ret
   exact ⟨eQ_, dR_⟩
  rw [if_neg c3] at H
  have c3b0 := dF_ c3
  clear c3
  obtain rfl := oI_ H
  go_enter Try.func99, Try.ntmps99
  go_wp2
  go_ret
  exact ⟨eQ_, dR_⟩
 rw [if_neg c2] at H
 have c2b0 := dF_ c2
 clear c2
 obtain rfl := oI_ H
 go_enter Try.func99, Try.ntmps99
 go_wp2
 go_ret
 exact ⟨eQ_, dR_⟩
def isa_HasA.j0 : Nat → Bool → Option (Bool)
  | 0, _ => none
  | k + 1, x4 => if x4 = true then (some true) else (some false)
def isa_HasA.f (k : Nat) (a0 : Int) : Option (Bool) := if a0 = 1 then (isa_HasA.j0 k (a0 == 1)) else (if a0 = 2 then (isa_HasA.j0 k (a0 == 2)) else (if a0 = 3 then (isa_HasA.j0 k (a0 == 3)) else (if a0 = 5 then (isa_HasA.j0 k (a0 == 5)) else (if a0 = 7 then (isa_HasA.j0 k (a0 == 7)) else (isa_HasA.j0 k (a0 == 9))))))
theorem isa_HasA.mono_l : ∀ k, (∀ y0, LeO (isa_HasA.j0 k y0) (isa_HasA.j0 (k + 1) y0))
  | 0 => fun _ r h => by simp [isa_HasA.j0] at h
  | k + 1 => by
    have ih0 := isa_HasA.mono_l k
    · intro y0
      unfold isa_HasA.j0
      repeat' first
      | (with_reducible exact ih0 _)
      | (with_reducible exact LeO.refl _)
      | (with_reducible exact LeO.none _)
      | (with_reducible refine LeO.ite ?_ ?_)
      | (with_reducible refine LeO.bind ?_ (fun _ => ?_))
      | exact LeO.none _
      | refine LeO.ite ?_ ?_
      | refine LeO.bind ?_ (fun _ => ?_)
theorem isa_HasA.mono : ∀ a0 k, LeO (isa_HasA.f k a0) (isa_HasA.f (k + 1) a0) := by
 intro a0 k
 have ih0 := isa_HasA.mono_l k
 unfold isa_HasA.f
 repeat' first
  | (with_reducible exact ih0 _)
  | (with_reducible exact LeO.refl _)
  | (with_reducible exact LeO.none _)
  | (with_reducible refine LeO.ite ?_ ?_)
  | (with_reducible refine LeO.bind ?_ (fun _ => ?_))
  | exact LeO.none _
  | refine LeO.ite ?_ ?_
  | refine LeO.bind ?_ (fun _ => ?_)
theorem isa_HasA.calls (k : Nat) (a0 : Int) (r : Bool) (w : World) (h : isa_HasA.f k a0 = some r) :
    Calls Try.prog 100 #[.int .i64 a0] w fun e w' => e = .returned (.bool r) ∧ Dr_ w w' := by
 have H : (if a0 = 1 then (isa_HasA.j0 k (a0 == 1)) else (if a0 = 2 then (isa_HasA.j0 k (a0 == 2)) else (if a0 = 3 then (isa_HasA.j0 k (a0 == 3)) else (if a0 = 5 then (isa_HasA.j0 k (a0 == 5)) else (if a0 = 7 then (isa_HasA.j0 k (a0 == 7)) else (isa_HasA.j0 k (a0 == 9))))))) = some r := h
 clear h
 have HC2 := aM_ H
 clear H
 go_enter Try.func100, Try.ntmps100
 go_upto_if 4 with (fail)
 go_cut [4] (fun v4 wc => ∃ (kq : Nat) (x4_1 : Bool), v4 = .bool x4_1 ∧ As_ (isa_HasA.j0 kq x4_1 = some r) ∧ As_ (kq ≤ k) ∧ Dr_ w wc)
 case first =>
  have H := HC2.out
  clear HC2
  by_cases c3 : a0 = 1
  ·rw [if_pos c3] at H
   have c3b0 := bH_ c3
   have c3b1 := bF_ c3
   clear c3
   (first | rw [c3b0] | (simp only [i64_w, i32_w]; rw [c3b0]) | skip)
   replace H := aM_ H
   go_wp2
   go_meet
   case rel => exact ⟨_, ((a0 == 1)), eQ_, H, ⟨by first | omega | exact Nat.le_refl _⟩, dR_⟩
  rw [if_neg c3] at H
  have c3b0 := bE_ c3
  have c3b1 := bG_ c3
  (first | rw [c3b0] | (simp only [i64_w, i32_w]; rw [c3b0]) | skip)
  by_cases c4 : a0 = 2
  ·rw [if_pos c4] at H
   have c4b0 := bH_ c4
   have c4b1 := bF_ c4
   clear c4
   replace H := aM_ H
   go_wp2
   go_meet
   case rel => exact ⟨_, ((a0 == 2)), eQ_, H, ⟨by first | omega | exact Nat.le_refl _⟩, dR_⟩
  rw [if_neg c4] at H
  have c4b0 := bE_ c4
  have c4b1 := bG_ c4
  by_cases c5 : a0 = 3
  ·rw [if_pos c5] at H
   have c5b0 := bH_ c5
   have c5b1 := bF_ c5
   clear c5
   replace H := aM_ H
   go_wp2
   go_meet
   case rel => exact ⟨_, ((a0 == 3)), eQ_, H, ⟨by first | omega | exact Nat.le_refl _⟩, dR_⟩
  rw [if_neg c5] at H
  have c5b0 := bE_ c5
  have c5b1 := bG_ c5
  by_cases c6 : a0 = 5
  ·rw [if_pos c6] at H
   have c6b0 := bH_ c6
   have c6b1 := bF_ c6
   clear c6
   replace H := aM_ H
   go_wp2
   go_meet
   case rel => exact ⟨_, ((a0 == 5)), eQ_, H, ⟨by first | omega | exact Nat.le_refl _⟩, dR_⟩
  rw [if_neg c6] at H
  have c6b0 := bE_ c6
  have c6b1 := bG_ c6
  by_cases c7 : a0 = 7
  ·rw [if_pos c7] at H
   have c7b0 := bH_ c7
   have c7b1 := bF_ c7
   clear c7
   replace H := aM_ H
   go_wp2
   go_meet
   case rel => exact ⟨_, ((a0 == 7)), eQ_, H, ⟨by first | omega | exact Nat.le_refl _⟩, dR_⟩
  rw [if_neg c7] at H
  have c7b0 := bE_ c7
  have c7b1 := bG_ c7
  replace H := aM_ H
  go_wp2
  go_meet
  case rel => exact ⟨_, ((a0 == 9)), eQ_, H, ⟨by first | omega | exact Nat.le_refl _⟩, dR_⟩
 case rest =>
  clear HC2
  obtain ⟨kq, x4_1, rfl, HA, HJ1, ⟨mc1, rfl⟩⟩ := hcut
  cases kq with
  | zero => exact absurd HA.out (by simp [isa_HasA.j0])
  | succ kj1 =>
   have H := HA.out
   clear HA
   simp only [isa_HasA.j0] at H
   by_cases c8 : x4_1 = true
   ·subst c8
    rw [if_pos rfl] at H
    obtain rfl := oI_ H
    go_wp2
    go_ret
    exact ⟨eQ_, dR_⟩
   replace c8 := eF_ c8
   subst c8
   rw [if_neg Bool.false_ne_true] at H
   obtain rfl := oI_ H
   go_wp2
   go_ret
   exact ⟨eQ_, dR_⟩
def isa_HasB.f (a0 : Int) : Option (Bool) := if a0 = 1 then (some true) else (some (a0 == 5))
theorem isa_HasB.calls (a0 : Int) (r : Bool) (w : World) (h : isa_HasB.f a0 = some r) :
    Calls Try.prog 101 #[.int .i64 a0] w fun e w' => e = .returned (.bool r) ∧ Dr_ w w' := by
 have H : (if a0 = 1 then (some true) else (some (a0 == 5))) = some r := h
 clear h
 by_cases c2 : a0 = 1
 ·rw [if_pos c2] at H
  have c2b0 := bH_ c2
  have c2b1 := bF_ c2
  clear c2
  obtain rfl := oI_ H
  go_enter Try.func101, Try.ntmps101
  go_wp2
  go_ret
  exact ⟨eQ_, dR_⟩
 rw [if_neg c2] at H
 have c2b0 := bE_ c2
 have c2b1 := bG_ c2
 obtain rfl := oI_ H
 go_enter Try.func101, Try.ntmps101
 go_wp2
 go_ret
 exact ⟨eQ_, dR_⟩
def isa_letter.f (a0 : Int) : Option (Bool) := if a0 = 95 then (some true) else (if a0 ≥ 97 then (some (decide (a0 ≤ 122))) else (some false))
theorem isa_letter.calls (a0 : Int) (r : Bool) (w : World) (h : isa_letter.f a0 = some r) :
    Calls Try.prog 126 #[.int .u8 a0] w fun e w' => e = .returned (.bool r) ∧ Dr_ w w' := by
 have H : (if a0 = 95 then (some true) else (if a0 ≥ 97 then (some (decide (a0 ≤ 122))) else (some false))) = some r := h
 clear h
 by_cases c2 : a0 = 95
 ·rw [if_pos c2] at H
  have c2b0 := bH_ c2
  have c2b1 := bF_ c2
  clear c2
  obtain rfl := oI_ H
  go_enter Try.func126, Try.ntmps126
  go_wp2
  go_ret
  exact ⟨eQ_, dR_⟩
 rw [if_neg c2] at H
 have c2b0 := bE_ c2
 have c2b1 := bG_ c2
 by_cases c3 : a0 ≥ 97
 ·rw [if_pos c3] at H
  have c3b0 := dE_ c3
  clear c3
  obtain rfl := oI_ H
  go_enter Try.func126, Try.ntmps126
  go_wp2
  go_ret
  exact ⟨eQ_, dR_⟩
 rw [if_neg c3] at H
 have c3b0 := dF_ c3
 clear c3
 obtain rfl := oI_ H
 go_enter Try.func126, Try.ntmps126
 go_wp2
 go_ret
 exact ⟨eQ_, dR_⟩
end
end Go.Proofs.Ytibfkkjkahpobaa.PDag
