import Derived.Test.YtibfkkjkahpobaaKq15
import Derived.Test.YtibfkkjkahpobaaKq19
import Derived.Test.YtibfkkjkahpobaaKq26
import Derived.Test.YtibfkkjkahpobaaKq32
import Derived.Test.YtibfkkjkahpobaaKq30
import Derived.Test.YtibfkkjkahpobaaKq33
import Derived.Test.YtibfkkjkahpobaaKq36
set_option linter.unusedVariables false
set_option linter.unusedSimpArgs false
open Go.RowKit Go.Proofs.YtibfkkjkahpobaaW.PrintWords Go.Proofs.YtibfkkjkahpobaaW.PrintLast Go.Proofs.YtibfkkjkahpobaaW.PrintMore
section
namespace Go.Proofs.Ytibfkkjkahpobaa.PDag
attribute [local go_sem] max2_int min2_int max_two min_two max_three min_three max_four min_four   -- for this text's walks alone
mutual
def w15_row.l0 : Nat → Int → Int → List Int → List (S24) → Int → Option ((List (S24)))
  | 0, _, _, _, _, _ => none
  | k + 1, x0, x1, x2, x7, x8 => if x8 < x0 then (if (x2.length : Int) = 0 then (none) else (if 0 ≤ (Int.tmod x8 (x2.length : Int)) then (if (Int.tmod x8 (x2.length : Int)) < (x2.length : Int) then ((r3_Form.f (rd x2 (Int.tmod x8 (x2.length : Int)))).bind fun t683 => ((r3_HasD.f t683).bind fun t684 => (if t684 = true then (w15_row.j1 k x0 x1 x2 x7 x8 t683 (rd x2 (Int.tmod x8 (x2.length : Int))) (Int.tmod (wrap64 (x8 * x1)) 16) 0 0 0 (⟨#[]⟩ : ByteArray)) else (w15_row.j1 k x0 x1 x2 x7 x8 t683 (rd x2 (Int.tmod x8 (x2.length : Int))) 0 0 0 0 (⟨#[]⟩ : ByteArray))))) else (none)) else (none))) else (some x7)
def w15_row.j1 : Nat → Int → Int → List Int → List (S24) → Int → Int → Int → Int → Int → Int → Int → ByteArray → Option ((List (S24)))
  | 0, _, _, _, _, _, _, _, _, _, _, _, _ => none
  | k + 1, x0, x1, x2, x7, x8, x10, x683a, x683b, x683c, x683d, x683e, x683f => (r3_HasA.f x10).bind fun t685 => (if t685 = true then (w15_row.j2 k x0 x1 x2 x7 x8 x10 x683a x683b (Int.tmod (wrap64 ((wrap64 (x8 + 1)) * x1)) 16) x683d x683e x683f) else (w15_row.j2 k x0 x1 x2 x7 x8 x10 x683a x683b x683c x683d x683e x683f))
def w15_row.j2 : Nat → Int → Int → List Int → List (S24) → Int → Int → Int → Int → Int → Int → Int → ByteArray → Option ((List (S24)))
  | 0, _, _, _, _, _, _, _, _, _, _, _, _ => none
  | k + 1, x0, x1, x2, x7, x8, x10, x683a, x683b, x683c, x683d, x683e, x683f => (r3_HasB.f x10).bind fun t686 => (if t686 = true then (if x7.length < 2513169434916 then (w15_row.l0 k x0 x1 x2 (x7 ++ [(⟨x683a, x683b, x683c, Int.tmod (wrap64 ((wrap64 (x8 + 2)) * x1)) 16, x683e, x683f⟩ : S24)]) (wrap64 (x8 + 1))) else (none)) else (if x7.length < 2513169434916 then (w15_row.l0 k x0 x1 x2 (x7 ++ [(⟨x683a, x683b, x683c, x683d, x683e, x683f⟩ : S24)]) (wrap64 (x8 + 1))) else (none)))
end
def w15_row.f (k : Nat) (a0 : Int) (a1 : Int) (l2 : List Int) : Option ((List (S24))) := w15_row.l0 k a0 a1 l2 ([] : List (S24)) 0
theorem w15_row.mono_l : ∀ k, (∀ y0 y1 y2 y3 y4, LeO (w15_row.l0 k y0 y1 y2 y3 y4) (w15_row.l0 (k + 1) y0 y1 y2 y3 y4)) ∧ (∀ y0 y1 y2 y3 y4 y5 y6 y7 y8 y9 y10 y11, LeO (w15_row.j1 k y0 y1 y2 y3 y4 y5 y6 y7 y8 y9 y10 y11) (w15_row.j1 (k + 1) y0 y1 y2 y3 y4 y5 y6 y7 y8 y9 y10 y11)) ∧ (∀ y0 y1 y2 y3 y4 y5 y6 y7 y8 y9 y10 y11, LeO (w15_row.j2 k y0 y1 y2 y3 y4 y5 y6 y7 y8 y9 y10 y11) (w15_row.j2 (k + 1) y0 y1 y2 y3 y4 y5 y6 y7 y8 y9 y10 y11))
  | 0 => ⟨fun _ _ _ _ _ r h => by simp [w15_row.l0] at h, fun _ _ _ _ _ _ _ _ _ _ _ _ r h => by simp [w15_row.j1] at h, fun _ _ _ _ _ _ _ _ _ _ _ _ r h => by simp [w15_row.j2] at h⟩
  | k + 1 => by
    obtain ⟨ih0, ih1, ih2⟩ := w15_row.mono_l k
    refine ⟨?_, ?_, ?_⟩
    · intro y0 y1 y2 y3 y4
      unfold w15_row.l0
      repeat' first
      | (with_reducible exact ih0 _ _ _ _ _)
      | (with_reducible exact ih1 _ _ _ _ _ _ _ _ _ _ _ _)
      | (with_reducible exact ih2 _ _ _ _ _ _ _ _ _ _ _ _)
      | (with_reducible exact LeO.refl _)
      | (with_reducible exact LeO.none _)
      | (with_reducible refine LeO.ite ?_ ?_)
      | (with_reducible refine LeO.bind ?_ (fun _ => ?_))
      | exact LeO.none _
      | refine LeO.ite ?_ ?_
      | refine LeO.bind ?_ (fun _ => ?_)
    · intro y0 y1 y2 y3 y4 y5 y6 y7 y8 y9 y10 y11
      unfold w15_row.j1
      repeat' first
      | (with_reducible exact ih0 _ _ _ _ _)
      | (with_reducible exact ih1 _ _ _ _ _ _ _ _ _ _ _ _)
      | (with_reducible exact ih2 _ _ _ _ _ _ _ _ _ _ _ _)
      | (with_reducible exact LeO.refl _)
      | (with_reducible exact LeO.none _)
      | (with_reducible refine LeO.ite ?_ ?_)
      | (with_reducible refine LeO.bind ?_ (fun _ => ?_))
      | exact LeO.none _
      | refine LeO.ite ?_ ?_
      | refine LeO.bind ?_ (fun _ => ?_)
    · intro y0 y1 y2 y3 y4 y5 y6 y7 y8 y9 y10 y11
      unfold w15_row.j2
      repeat' first
      | (with_reducible exact ih0 _ _ _ _ _)
      | (with_reducible exact ih1 _ _ _ _ _ _ _ _ _ _ _ _)
      | (with_reducible exact ih2 _ _ _ _ _ _ _ _ _ _ _ _)
      | (with_reducible exact LeO.refl _)
      | (with_reducible exact LeO.none _)
      | (with_reducible refine LeO.ite ?_ ?_)
      | (with_reducible refine LeO.bind ?_ (fun _ => ?_))
      | exact LeO.none _
      | refine LeO.ite ?_ ?_
      | refine LeO.bind ?_ (fun _ => ?_)
theorem w15_row.mono : ∀ a0 a1 a2 k, LeO (w15_row.f k a0 a1 a2) (w15_row.f (k + 1) a0 a1 a2) := by
  intro a0 a1 a2 k
  obtain ⟨ih0, ih1, ih2⟩ := w15_row.mono_l k
  unfold w15_row.f
  repeat' first
      | (with_reducible exact ih0 _ _ _ _ _)
      | (with_reducible exact ih1 _ _ _ _ _ _ _ _ _ _ _ _)
      | (with_reducible exact ih2 _ _ _ _ _ _ _ _ _ _ _ _)
      | (with_reducible exact LeO.refl _)
      | (with_reducible exact LeO.none _)
      | (with_reducible refine LeO.ite ?_ ?_)
      | (with_reducible refine LeO.bind ?_ (fun _ => ?_))
      | exact LeO.none _
      | refine LeO.ite ?_ ?_
      | refine LeO.bind ?_ (fun _ => ?_)
set_option maxHeartbeats 8000000 in
set_option maxRecDepth 100000 in
theorem w15_row.calls (k : Nat) (a0 : Int) (a1 : Int) (A2 : Option Addr) (c2 : Nat) (l2 : List Int) (r : List (S24)) (w : World) (hr2 : Kd.C (Kd.int .i64) w A2 l2.length l2) (hc2 : l2.length ≤ c2) (h : w15_row.f k a0 a1 l2 = some r) :
    Calls Try.prog 45 #[.int .i64 a0, .int .i64 a1, .slice A2 l2.length c2] w fun e w' => ∃ v0_ : Value, e = .returned (v0_) ∧ Kd.R k24 24 w' w.heap.size (fun _ => True) v0_ r ∧ Below w.heap.size w w' := by
  have hu24 := Try.underlying24
  have HR2 := As_.mk hr2
  have HC2 := As_.mk hc2
  clear hr2 hc2
  have HB := As_.mk (Below.refl w.heap.size w)
  have H : (w15_row.l0 k a0 a1 l2 ([] : List (S24)) 0) = some r := h
  clear h
  have H' := As_.mk H
  clear H
  go_enter Try.func45, Try.ntmps45
  go_wp2
  go_loopg [7, 8] k (fun kq v7 v8 w' => ∃ (x7_1 : List (S24)) (x8_1 : Int), v8 = .int .i64 x8_1 ∧ As_ (w15_row.l0 kq a0 a1 l2 x7_1 x8_1 = some r) ∧ As_ (kq ≤ k) ∧ As_ (Kd.R k24 24 w' w.heap.size (fun _ => True) v7 x7_1) ∧ As_ (Below w.heap.size w w'))
  case atStart => exact ⟨(([] : List (S24))), (0), eQ_, H', ⟨Nat.le_refl _⟩, ⟨by first | exact Kd.R_nil _ _ _ _ _ | exact Kd.N_nil _ _ _ _ _ | exact Kd.V_nil _ _ _ _ _ | exact Kd.Q_nil _ _ _ _ _ | exact Kd.S_nil _ _ _ _ _⟩, ⟨bl_ HB⟩⟩
  case round =>
    clear H'
    (try clear c2); (try clear p2)
    obtain ⟨x7_1, x8_1, rfl, HA, HK1, HO_7, HB⟩ := hrel
    cases gk with
    | zero => exact absurd HA.out (by simp [w15_row.l0])
    | succ k1 =>
      have H := HA.out
      clear HA
      simp only [w15_row.l0] at H
      by_cases c4 : x8_1 < a0
      · rw [if_pos c4] at H
        have c4b0 := decide_eq_true c4
        clear c4
        by_cases c5 : (l2.length : Int) = 0
        · rw [if_pos c5] at H
          exact absurd H (by simp)
        · rw [if_neg c5] at H
          have c5b0 := bE_ c5
          have c5b1 := bne_iff_ne.mpr c5
          have c5b2 : ¬ (l2 = []) := fun h_ => c5 (by rw [h_]; rfl)
          obtain ⟨ji6, hji6⟩ : ∃ j_ : Int, (Int.tmod x8_1 (l2.length : Int)) = j_ := ⟨_, rfl⟩
          replace H : (if 0 ≤ (ji6) then (if (ji6) < (l2.length : Int) then ((r3_Form.f (rd l2 (ji6))).bind fun t683 => ((r3_HasD.f t683).bind fun t684 => (if t684 = true then (w15_row.j1 k1 a0 a1 l2 x7_1 x8_1 t683 (rd l2 (ji6)) (Int.tmod (wrap64 (x8_1 * a1)) 16) 0 0 0 (⟨#[]⟩ : ByteArray)) else (w15_row.j1 k1 a0 a1 l2 x7_1 x8_1 t683 (rd l2 (ji6)) 0 0 0 0 (⟨#[]⟩ : ByteArray))))) else (none)) else (none)) = some r := by first | (rw [hji6] at H; exact H) | (simp only [hji6] at H ⊢; exact H)
          by_cases c7 : 0 ≤ (ji6)
          · rw [if_pos c7] at H
            have c7b0 := decide_eq_true c7
            clear c7
            by_cases c8 : (ji6) < (l2.length : Int)
            · rw [if_pos c8] at H
              have c8b0 := decide_eq_true c8
              clear c8
              replace H := oB_ H
              obtain ⟨t683, A90, H⟩ := H
              have A9 := As_.mk A90
              clear A90
              replace H := oB_ H
              obtain ⟨t684, A100, H⟩ := H
              have A10 := As_.mk A100
              clear A100
              have HC11 := As_.mk H
              clear H
              have p681 : 0 ≤ ((ji6) : Int) := oD_
              have q681 : (ji6) < (l2.length : Int) := oD_
              obtain ⟨ad681, e681, hx681_0⟩ := Kd.at_int HR2.out (ji6) p681 q681
              cases e681
              replace hx681_0 := hC_ HB hx681_0
              replace p681 := eq_true p681
              replace q681 := eq_true q681
              go_upto_if 28 with (first | ((with_reducible refine gate_dst (N := 9) rfl ?_); refine bX_ (N := 9) (cs := #[.int .i64 0, .int .i64 0, .int .i64 0, .int .i64 0, .int .i64 0, .string (⟨#[]⟩ : ByteArray)]) (t := 24) ?_; intro gb682 hg w12 hbox hb; replace HO_7 := As_.mk (Kd.R_below (Kd.R_elderB (rR_ HO_7) gb682 (Nat.le_of_eq hg.symm)) hb); replace BK682 := As_.mk (hbox); replace GW682 := As_.mk ((by rw [hg]; exact (bY_ (bl_ HB)) : w.heap.size ≤ gb682)); replace GE682 := As_.mk ((by rw [hg]; exact (bY_ (bl_ HB)) : w.heap.size ≤ gb682)); replace HB := As_.mk (bT_ (bl_ HB) hb); clear hb hbox hg; obtain ⟨hcz13_0, hcz13_1, hcz13_2, hcz13_3, hcz13_4, hcz13_5⟩ := cl6_ BK682.out; obtain ⟨hfz13_0, hfz13_1, hfz13_2, hfz13_3, hfz13_4, hfz13_5⟩ := fz6_ BK682.out) | ((with_reducible refine gC_ (f := 15) rfl ?_); refine goesL_ (some 26) rfl rfl Try.func15 (by kernel_rfl) rfl #[.int .i64 (rd l2 (ji6))] rfl (by (try simp only [List.map_toArray, List.map_cons, List.map_nil]); first | done | (simp only [hji6]; rfl) | rfl | (simp only [List.length_drop, List.length_take]; rfl)) ?_; (with_reducible refine (r3_Form.calls (rd l2 (ji6)) t683 _ A9.out).mono ?_); rintro e w14 ⟨rfl, hb⟩; refine ⟨_, rfl, ?_⟩; replace HO_7 := As_.mk (Kd.R_below (by (with_reducible repeat (first | apply Kd.R_alloc | apply Kd.R_drewN | apply Kd.R_drew)); exact (Kd.R_mono (Kd.R_far (p := ⟨gb682, 5, none⟩) (Kd.R_far (p := ⟨gb682, 4, none⟩) (Kd.R_far (p := ⟨gb682, 3, none⟩) (Kd.R_far (p := ⟨gb682, 2, none⟩) (Kd.R_far (p := ⟨gb682, 1, none⟩) (Kd.R_far (p := ⟨gb682, 0, none⟩) (Kd.R_mono HO_7.out (fun k_ hk => (⟨hk, hk.2⟩ : _ ∧ k_ ≠ gb682))) (fun _ hk => hk.2) (.int .i64 (rd l2 (ji6)))) (fun _ hk => hk.2) (.int .i64 0)) (fun _ hk => hk.2) (.int .i64 0)) (fun _ hk => hk.2) (.int .i64 0)) (fun _ hk => hk.2) (.int .i64 0)) (fun _ hk => hk.2) (.string (⟨#[]⟩ : ByteArray))) (fun _ h_ => h_.1))) hb); replace BK682 := As_.mk (kB_ (g := gb682) (o := .cells #[.int .i64 (rd l2 (ji6)), .int .i64 0, .int .i64 0, .int .i64 0, .int .i64 0, .string (⟨#[]⟩ : ByteArray)] 24 (0, 0)) (by (with_reducible repeat (first | refine kN_ ?_ _ | refine kD_ ?_ | refine kA_ ?_ _)); refine blk_put (cs := #[.int .i64 (rd l2 (ji6)), .int .i64 0, .int .i64 0, .int .i64 0, .int .i64 0, .string (⟨#[]⟩ : ByteArray)]) ?_ 5 _ rfl; (with_reducible repeat (first | refine kN_ ?_ _ | refine kD_ ?_ | refine kA_ ?_ _)); refine blk_put (cs := #[.int .i64 (rd l2 (ji6)), .int .i64 0, .int .i64 0, .int .i64 0, .int .i64 0, .string (⟨#[]⟩ : ByteArray)]) ?_ 4 _ rfl; (with_reducible repeat (first | refine kN_ ?_ _ | refine kD_ ?_ | refine kA_ ?_ _)); refine blk_put (cs := #[.int .i64 (rd l2 (ji6)), .int .i64 0, .int .i64 0, .int .i64 0, .int .i64 0, .string (⟨#[]⟩ : ByteArray)]) ?_ 3 _ rfl; (with_reducible repeat (first | refine kN_ ?_ _ | refine kD_ ?_ | refine kA_ ?_ _)); refine blk_put (cs := #[.int .i64 (rd l2 (ji6)), .int .i64 0, .int .i64 0, .int .i64 0, .int .i64 0, .string (⟨#[]⟩ : ByteArray)]) ?_ 2 _ rfl; (with_reducible repeat (first | refine kN_ ?_ _ | refine kD_ ?_ | refine kA_ ?_ _)); refine blk_put (cs := #[.int .i64 (rd l2 (ji6)), .int .i64 0, .int .i64 0, .int .i64 0, .int .i64 0, .string (⟨#[]⟩ : ByteArray)]) ?_ 1 _ rfl; (with_reducible repeat (first | refine kN_ ?_ _ | refine kD_ ?_ | refine kA_ ?_ _)); refine blk_put (cs := #[.int .i64 0, .int .i64 0, .int .i64 0, .int .i64 0, .int .i64 0, .string (⟨#[]⟩ : ByteArray)]) ?_ 0 _ rfl; (with_reducible repeat (first | refine kN_ ?_ _ | refine kD_ ?_ | refine kA_ ?_ _)); exact BK682.out) hb); replace HB := As_.mk (bT_ (bs_ HB GE682) hb)) | ((with_reducible refine gC_ (f := 16) rfl ?_); refine gL_ (some 28) Try.func16 #[.int .i64 t683] rfl ?_; (with_reducible refine (r3_HasD.calls t683 t684 _ A10.out).mono ?_); rintro e w' ⟨rfl, ⟨nd, rfl⟩⟩; refine ⟨_, rfl, ?_⟩))
              (try simp only [Act.put, List.setIfInBounds_toArray, List.set_cons_zero, List.set_cons_succ])
              go_cut [] (fun wc => ∃ (kq : Nat) (x683b_10 : Int), As_ (w15_row.j1 kq a0 a1 l2 x7_1 x8_1 t683 (rd l2 (ji6)) x683b_10 0 0 0 (⟨#[]⟩ : ByteArray) = some r) ∧ As_ (kq ≤ k1) ∧ As_ (Kd.R k24 24 wc w.heap.size (fun k_ => k_ ≠ gb682) u7 x7_1) ∧ As_ (wc.heap[gb682]? = some (.cells #[.int .i64 (rd l2 (ji6)), .int .i64 x683b_10, .int .i64 0, .int .i64 0, .int .i64 0, .string (⟨#[]⟩ : ByteArray)] 24 (0, 0))) ∧ As_ (Below w.heap.size w wc))
              case first =>
                have H := HC11.out
                clear HC11
                by_cases c15 : t684 = true
                · subst c15
                  rw [if_pos rfl] at H
                  have H' := As_.mk H
                  clear H
                  obtain ⟨hcz16_0, hcz16_1, hcz16_2, hcz16_3, hcz16_4, hcz16_5⟩ := cl6_ BK682.out
                  obtain ⟨hfz16_0, hfz16_1, hfz16_2, hfz16_3, hfz16_4, hfz16_5⟩ := fz6_ BK682.out
                  go_wp2
                  go_meet
                  case rel => exact ⟨_, (Int.tmod (wrap64 (x8_1 * a1)) 16), H', ⟨by have := HK1.out; first | omega | exact Nat.le_refl _⟩, ⟨by (with_reducible repeat (first | apply Kd.R_alloc | apply Kd.R_drewN | apply Kd.R_drew)); exact Kd.R_mono (Kd.R_far (p := ⟨gb682, 1, none⟩) (Kd.R_mono HO_7.out (fun k_ hk => (⟨hk, hk.2⟩ : _ ∧ k_ ≠ gb682))) (fun _ hk => hk.2) (.int .i64 (Int.tmod (wrap64 (x8_1 * a1)) 16))) (fun _ hk => hk.1.2)⟩, ⟨by (with_reducible repeat (first | refine kN_ ?_ _ | refine kD_ ?_ | refine kA_ ?_ _)); refine blk_put (cs := #[.int .i64 (rd l2 (ji6)), .int .i64 0, .int .i64 0, .int .i64 0, .int .i64 0, .string (⟨#[]⟩ : ByteArray)]) ?_ 1 _ rfl; (with_reducible repeat (first | refine kN_ ?_ _ | refine kD_ ?_ | refine kA_ ?_ _)); exact BK682.out⟩, ⟨bs_ HB GE682⟩⟩
                · replace c15 := eF_ c15
                  subst c15
                  rw [if_neg Bool.false_ne_true] at H
                  have H' := As_.mk H
                  clear H
                  go_wp2
                  go_meet
                  case rel => exact ⟨_, (0), H', ⟨by have := HK1.out; first | omega | exact Nat.le_refl _⟩, ⟨by (with_reducible repeat (first | apply Kd.R_alloc | apply Kd.R_drewN | apply Kd.R_drew)); exact Kd.R_mono HO_7.out (fun _ hk => hk.2)⟩, ⟨rB_ BK682⟩, ⟨bs_ HB GE682⟩⟩
              case rest =>
                clear HC11
                (try clear c1); (try clear c2); (try clear p2); (try clear c4); (try clear c4b0); (try clear c5); (try clear c5b0); (try clear c5b1); (try clear c5b2); (try clear p6); (try clear q6); (try clear hx6); (try clear c7); (try clear c7b0); (try clear c8); (try clear c8b0); (try clear c15); (try clear c16); (try clear hcz13_0); (try clear hcz13_1); (try clear hcz13_2); (try clear hcz13_3); (try clear hcz13_4); (try clear hcz13_5); (try clear hcz16_0); (try clear hcz16_1); (try clear hcz16_2); (try clear hcz16_3); (try clear hcz16_4); (try clear hcz16_5); (try clear hfz13_0); (try clear hfz13_1); (try clear hfz13_2); (try clear hfz13_3); (try clear hfz13_4); (try clear hfz13_5); (try clear hfz16_0); (try clear hfz16_1); (try clear hfz16_2); (try clear hfz16_3); (try clear hfz16_4); (try clear hfz16_5); (try clear hx681_0); (try clear p2); (try clear p681); (try clear q681)
                obtain ⟨kq, x683b_10, HA, HJ10, HO_7, BK682, HB⟩ := hcut
                cases kq with
                | zero => exact absurd HA.out (by simp [w15_row.j1])
                | succ kj10 =>
                  have H := HA.out
                  clear HA
                  simp only [w15_row.j1] at H
                  replace H := oB_ H
                  obtain ⟨t685, A170, H⟩ := H
                  have A17 := As_.mk A170
                  clear A170
                  have HC18 := As_.mk H
                  clear H
                  go_upto_if 35 with (first | ((with_reducible refine gC_ (f := 17) rfl ?_); refine gL_ (some 35) Try.func17 #[.int .i64 t683] rfl ?_; (with_reducible refine (r3_HasA.calls t683 t685 _ A17.out).mono ?_); rintro e w' ⟨rfl, ⟨nd, rfl⟩⟩; refine ⟨_, rfl, ?_⟩))
                  (try simp only [Act.put, List.setIfInBounds_toArray, List.set_cons_zero, List.set_cons_succ])
                  go_cut [] (fun wc => ∃ (kq : Nat) (x683c_17 : Int), As_ (w15_row.j2 kq a0 a1 l2 x7_1 x8_1 t683 (rd l2 (ji6)) x683b_10 x683c_17 0 0 (⟨#[]⟩ : ByteArray) = some r) ∧ As_ (kq ≤ kj10) ∧ As_ (Kd.R k24 24 wc w.heap.size (fun k_ => k_ ≠ gb682) u7 x7_1) ∧ As_ (wc.heap[gb682]? = some (.cells #[.int .i64 (rd l2 (ji6)), .int .i64 x683b_10, .int .i64 x683c_17, .int .i64 0, .int .i64 0, .string (⟨#[]⟩ : ByteArray)] 24 (0, 0))) ∧ As_ (Below w.heap.size w wc))
                  case first =>
                    have H := HC18.out
                    clear HC18
                    by_cases c19 : t685 = true
                    · subst c19
                      rw [if_pos rfl] at H
                      have H' := As_.mk H
                      clear H
                      obtain ⟨hcz20_0, hcz20_1, hcz20_2, hcz20_3, hcz20_4, hcz20_5⟩ := cl6_ BK682.out
                      obtain ⟨hfz20_0, hfz20_1, hfz20_2, hfz20_3, hfz20_4, hfz20_5⟩ := fz6_ BK682.out
                      go_wp2
                      go_meet
                      case rel => exact ⟨_, (Int.tmod (wrap64 ((wrap64 (x8_1 + 1)) * a1)) 16), H', ⟨by have := HK1.out; have := HJ10.out; first | omega | exact Nat.le_refl _⟩, ⟨by (with_reducible repeat (first | apply Kd.R_alloc | apply Kd.R_drewN | apply Kd.R_drew)); exact Kd.R_mono (Kd.R_far (p := ⟨gb682, 2, none⟩) (Kd.R_mono HO_7.out (fun k_ hk => (⟨hk, hk⟩ : _ ∧ k_ ≠ gb682))) (fun _ hk => hk.2) (.int .i64 (Int.tmod (wrap64 ((wrap64 (x8_1 + 1)) * a1)) 16))) (fun _ hk => hk.1)⟩, ⟨by (with_reducible repeat (first | refine kN_ ?_ _ | refine kD_ ?_ | refine kA_ ?_ _)); refine blk_put (cs := #[.int .i64 (rd l2 (ji6)), .int .i64 x683b_10, .int .i64 0, .int .i64 0, .int .i64 0, .string (⟨#[]⟩ : ByteArray)]) ?_ 2 _ rfl; (with_reducible repeat (first | refine kN_ ?_ _ | refine kD_ ?_ | refine kA_ ?_ _)); exact BK682.out⟩, ⟨bs_ HB GE682⟩⟩
                    · replace c19 := eF_ c19
                      subst c19
                      rw [if_neg Bool.false_ne_true] at H
                      have H' := As_.mk H
                      clear H
                      go_wp2
                      go_meet
                      case rel => exact ⟨_, (0), H', ⟨by have := HK1.out; have := HJ10.out; first | omega | exact Nat.le_refl _⟩, ⟨rR_ HO_7⟩, ⟨rB_ BK682⟩, ⟨bs_ HB GE682⟩⟩
                  case rest =>
                    clear HC18
                    (try clear c1); (try clear c2); (try clear p2); (try clear c4); (try clear c4b0); (try clear c5); (try clear c5b0); (try clear c5b1); (try clear c5b2); (try clear p6); (try clear q6); (try clear hx6); (try clear c7); (try clear c7b0); (try clear c8); (try clear c8b0); (try clear c15); (try clear c16); (try clear c17); (try clear c19); (try clear hcz13_0); (try clear hcz13_1); (try clear hcz13_2); (try clear hcz13_3); (try clear hcz13_4); (try clear hcz13_5); (try clear hcz16_0); (try clear hcz16_1); (try clear hcz16_2); (try clear hcz16_3); (try clear hcz16_4); (try clear hcz16_5); (try clear hcz20_0); (try clear hcz20_1); (try clear hcz20_2); (try clear hcz20_3); (try clear hcz20_4); (try clear hcz20_5); (try clear hfz13_0); (try clear hfz13_1); (try clear hfz13_2); (try clear hfz13_3); (try clear hfz13_4); (try clear hfz13_5); (try clear hfz16_0); (try clear hfz16_1); (try clear hfz16_2); (try clear hfz16_3); (try clear hfz16_4); (try clear hfz16_5); (try clear hfz20_0); (try clear hfz20_1); (try clear hfz20_2); (try clear hfz20_3); (try clear hfz20_4); (try clear hfz20_5); (try clear hx681_0); (try clear p2); (try clear p6); (try clear p681); (try clear q6); (try clear q681)
                    obtain ⟨kq, x683c_17, HA, HJ17, HO_7, BK682, HB⟩ := hcut
                    cases kq with
                    | zero => exact absurd HA.out (by simp [w15_row.j2])
                    | succ kj17 =>
                      have H := HA.out
                      clear HA
                      simp only [w15_row.j2] at H
                      replace H := oB_ H
                      obtain ⟨t686, A210, H⟩ := H
                      have A21 := As_.mk A210
                      clear A210
                      by_cases c22 : t686 = true
                      · subst c22
                        rw [if_pos rfl] at H
                        by_cases c23 : x7_1.length < 2513169434916
                        · rw [if_pos c23] at H
                          have LMc23 := As_.mk c23
                          clear c23
                          obtain ⟨y687, hy687⟩ : ∃ y_ : List (S24), y_ = (x7_1 ++ [(⟨(rd l2 (ji6)), x683b_10, x683c_17, Int.tmod (wrap64 ((wrap64 (x8_1 + 2)) * a1)) 16, 0, (⟨#[]⟩ : ByteArray)⟩ : S24)]) := ⟨_, rfl⟩
                          replace H : (w15_row.l0 kj17 a0 a1 l2 y687 (wrap64 (x8_1 + 1))) = some r := by first | (rw [hy687]; with_reducible exact H) | (have H2_ := (Option.bind_some _ _).symm.trans H; rw [hy687]; with_reducible exact H2_) | (have H2_ := (Option.bind_some _ _).symm.trans H; with_reducible exact H2_) | with_reducible exact H | (rw [hy687]; exact H) | exact H
                          have Ny687 := As_.mk hy687
                          clear hy687
                          have H' := As_.mk H
                          clear H
                          go_wp2_with (first | ((with_reducible refine gC_ (f := 18) rfl ?_); refine gL_ (some 43) Try.func18 #[.int .i64 t683] rfl ?_; (with_reducible refine (r3_HasB.calls t683 true _ A21.out).mono ?_); rintro e w' ⟨rfl, ⟨nd, rfl⟩⟩; refine ⟨_, rfl, ?_⟩; (try (rw [drewN_self wc]; generalize hq_ : World.drewN wc _ = wc; replace HO_7 : As_ (Kd.R k24 24 wc w.heap.size (fun k_ => k_ ≠ gb682) u7 x7_1) := ⟨by rw [← hq_]; exact (rR_ HO_7)⟩; replace BK682 : As_ (wc.heap[gb682]? = some (.cells #[.int .i64 (rd l2 (ji6)), .int .i64 x683b_10, .int .i64 x683c_17, .int .i64 0, .int .i64 0, .string (⟨#[]⟩ : ByteArray)] 24 (0, 0))) := ⟨by rw [← hq_]; exact (rB_ BK682)⟩; replace HB : As_ (Below w.heap.size w wc) := ⟨by rw [← hq_]; exact (bs_ HB GE682)⟩; clear hq_)); obtain ⟨hcz24_0, hcz24_1, hcz24_2, hcz24_3, hcz24_4, hcz24_5⟩ := cl6_ BK682.out; obtain ⟨hfz24_0, hfz24_1, hfz24_2, hfz24_3, hfz24_4, hfz24_5⟩ := fz6_ BK682.out) | ((with_reducible refine gate_builtin (b := .append) (xs := #[.tmp 50, .tmp 52]) rfl ?_); at_builtin; refine Kd.R_append k24 (w0 := w) w.heap.size rfl (.tmp 50) (.tmp 52) 22 24 (.agg #[(.int .i64 0), (.int .i64 0), (.int .i64 0), (.int .i64 0), (.int .i64 0), (.string ⟨#[]⟩)]) 56 rfl Try.underlying22 info24 rfl (by decide) (by omega) u7 x7_1 (⟨(rd l2 (ji6)), x683b_10, x683c_17, Int.tmod (wrap64 ((wrap64 (x8_1 + 2)) * a1)) 16, 0, (⟨#[]⟩ : ByteArray)⟩ : S24) [.int .i64 (rd l2 (ji6)), .int .i64 x683b_10, .int .i64 x683c_17, .int .i64 (Int.tmod (wrap64 ((wrap64 (x8_1 + 2)) * a1)) 16), .int .i64 0, .string (⟨#[]⟩ : ByteArray)] (fun k_ => k_ ≠ gb682) (fun _ => False) rfl (by first | (go_simp; done) | (go_simp; rfl)) ?aP (fun _ hk => hk.elim) ?aF ?aO ?aB ?aS ?aL ?_; (case aP => exact k24_mkM _ _ _ (⟨(rd l2 (ji6)), x683b_10, x683c_17, Int.tmod (wrap64 ((wrap64 (x8_1 + 2)) * a1)) 16, 0, (⟨#[]⟩ : ByteArray)⟩ : S24)); (case aB => exact (bs_ HB GE682)); (case aF => exact (fun k_ hk => Kd.freshB (g := gb682) (o := .cells #[.int .i64 (rd l2 (ji6)), .int .i64 x683b_10, .int .i64 x683c_17, .int .i64 (Int.tmod (wrap64 ((wrap64 (x8_1 + 2)) * a1)) 16), .int .i64 0, .string (⟨#[]⟩ : ByteArray)] 24 (0, 0)) (by (with_reducible repeat (first | refine kN_ ?_ _ | refine kD_ ?_ | refine kA_ ?_ _)); refine blk_put (cs := #[.int .i64 (rd l2 (ji6)), .int .i64 x683b_10, .int .i64 x683c_17, .int .i64 0, .int .i64 0, .string (⟨#[]⟩ : ByteArray)]) ?_ 3 _ rfl; (with_reducible repeat (first | refine kN_ ?_ _ | refine kD_ ?_ | refine kA_ ?_ _)); exact BK682.out) k_ hk)); (case aO => exact (by (with_reducible repeat (first | apply Kd.R_alloc | apply Kd.R_drewN | apply Kd.R_drew)); exact Kd.R_mono (Kd.R_far (p := ⟨gb682, 3, none⟩) (Kd.R_mono HO_7.out (fun k_ hk => (⟨hk, hk⟩ : _ ∧ k_ ≠ gb682))) (fun _ hk => hk.2) (.int .i64 (Int.tmod (wrap64 ((wrap64 (x8_1 + 2)) * a1)) 16))) (fun _ hk => hk.1))); (case aS => exact (bY_ (bs_ HB GE682))); (case aL => have := LMc23.out; omega); intro v688 w25 ho hb hg hat; rw [← Ny687.out] at ho; replace BK682 := As_.mk (blk_grown (g := gb682) (o := .cells #[.int .i64 (rd l2 (ji6)), .int .i64 x683b_10, .int .i64 x683c_17, .int .i64 (Int.tmod (wrap64 ((wrap64 (x8_1 + 2)) * a1)) 16), .int .i64 0, .string (⟨#[]⟩ : ByteArray)] 24 (0, 0)) (by (with_reducible repeat (first | refine kN_ ?_ _ | refine kD_ ?_ | refine kA_ ?_ _)); refine blk_put (cs := #[.int .i64 (rd l2 (ji6)), .int .i64 x683b_10, .int .i64 x683c_17, .int .i64 0, .int .i64 0, .string (⟨#[]⟩ : ByteArray)]) ?_ 3 _ rfl; (with_reducible repeat (first | refine kN_ ?_ _ | refine kD_ ?_ | refine kA_ ?_ _)); exact BK682.out) hg (Kd.R_away HO_7.out (fun _ hk => hk))); replace HB := As_.mk (hb); replace HO689 := As_.mk (ho); clear HO_7; clear ho hb hg hat))
                          go_roundg kj17
                          case measure => have := HK1.out; have := HJ10.out; have := HJ17.out; omega
                          case rel => exact ⟨(y687), (wrap64 (x8_1 + 1)), eQ_, H', ⟨by have := HK1.out; have := HJ10.out; have := HJ17.out; omega⟩, ⟨by (with_reducible repeat (first | apply Kd.R_alloc | apply Kd.R_drewN | apply Kd.R_drew)); exact Kd.R_mono HO689.out (fun _ hk => trivial)⟩, ⟨bs_ HB GE682⟩⟩
                        · rw [if_neg c23] at H
                          exact absurd H (by simp)
                      · replace c22 := eF_ c22
                        subst c22
                        rw [if_neg Bool.false_ne_true] at H
                        by_cases c26 : x7_1.length < 2513169434916
                        · rw [if_pos c26] at H
                          have LMc26 := As_.mk c26
                          clear c26
                          obtain ⟨y690, hy690⟩ : ∃ y_ : List (S24), y_ = (x7_1 ++ [(⟨(rd l2 (ji6)), x683b_10, x683c_17, 0, 0, (⟨#[]⟩ : ByteArray)⟩ : S24)]) := ⟨_, rfl⟩
                          replace H : (w15_row.l0 kj17 a0 a1 l2 y690 (wrap64 (x8_1 + 1))) = some r := by first | (rw [hy690]; with_reducible exact H) | (have H2_ := (Option.bind_some _ _).symm.trans H; rw [hy690]; with_reducible exact H2_) | (have H2_ := (Option.bind_some _ _).symm.trans H; with_reducible exact H2_) | with_reducible exact H | (rw [hy690]; exact H) | exact H
                          have Ny690 := As_.mk hy690
                          clear hy690
                          have H' := As_.mk H
                          clear H
                          go_wp2_with (first | ((with_reducible refine gC_ (f := 18) rfl ?_); refine gL_ (some 43) Try.func18 #[.int .i64 t683] rfl ?_; (with_reducible refine (r3_HasB.calls t683 false _ A21.out).mono ?_); rintro e w' ⟨rfl, ⟨nd, rfl⟩⟩; refine ⟨_, rfl, ?_⟩; obtain ⟨hcz27_0, hcz27_1, hcz27_2, hcz27_3, hcz27_4, hcz27_5⟩ := cl6_ BK682.out; obtain ⟨hfz27_0, hfz27_1, hfz27_2, hfz27_3, hfz27_4, hfz27_5⟩ := fz6_ BK682.out) | ((with_reducible refine gate_builtin (b := .append) (xs := #[.tmp 50, .tmp 52]) rfl ?_); at_builtin; refine Kd.R_append k24 (w0 := w) w.heap.size rfl (.tmp 50) (.tmp 52) 22 24 (.agg #[(.int .i64 0), (.int .i64 0), (.int .i64 0), (.int .i64 0), (.int .i64 0), (.string ⟨#[]⟩)]) 56 rfl Try.underlying22 info24 rfl (by decide) (by omega) u7 x7_1 (⟨(rd l2 (ji6)), x683b_10, x683c_17, 0, 0, (⟨#[]⟩ : ByteArray)⟩ : S24) [.int .i64 (rd l2 (ji6)), .int .i64 x683b_10, .int .i64 x683c_17, .int .i64 0, .int .i64 0, .string (⟨#[]⟩ : ByteArray)] (fun k_ => k_ ≠ gb682) (fun _ => False) rfl rfl ?aP (fun _ hk => hk.elim) ?aF ?aO ?aB ?aS ?aL ?_; (case aP => exact k24_mkM _ _ _ (⟨(rd l2 (ji6)), x683b_10, x683c_17, 0, 0, (⟨#[]⟩ : ByteArray)⟩ : S24)); (case aB => exact (bs_ HB GE682)); (case aF => exact (fun k_ hk => Kd.freshB (g := gb682) (o := .cells #[.int .i64 (rd l2 (ji6)), .int .i64 x683b_10, .int .i64 x683c_17, .int .i64 0, .int .i64 0, .string (⟨#[]⟩ : ByteArray)] 24 (0, 0)) (rB_ BK682) k_ hk)); (case aO => exact (rR_ HO_7)); (case aS => exact (bY_ (bs_ HB GE682))); (case aL => have := LMc26.out; omega); intro v691 w28 ho hb hg hat; rw [← Ny690.out] at ho; replace BK682 := As_.mk (blk_grown (g := gb682) (o := .cells #[.int .i64 (rd l2 (ji6)), .int .i64 x683b_10, .int .i64 x683c_17, .int .i64 0, .int .i64 0, .string (⟨#[]⟩ : ByteArray)] 24 (0, 0)) (rB_ BK682) hg (Kd.R_away HO_7.out (fun _ hk => hk))); replace HB := As_.mk (hb); replace HO692 := As_.mk (ho); clear HO_7; clear ho hb hg hat))
                          go_roundg kj17
                          case measure => have := HK1.out; have := HJ10.out; have := HJ17.out; omega
                          case rel => exact ⟨(y690), (wrap64 (x8_1 + 1)), eQ_, H', ⟨by have := HK1.out; have := HJ10.out; have := HJ17.out; omega⟩, ⟨by (with_reducible repeat (first | apply Kd.R_alloc | apply Kd.R_drewN | apply Kd.R_drew)); exact Kd.R_mono HO692.out (fun _ hk => trivial)⟩, ⟨bs_ HB GE682⟩⟩
                        · rw [if_neg c26] at H
                          exact absurd H (by simp)
            · rw [if_neg c8] at H
              exact absurd H (by simp)
          · rw [if_neg c7] at H
            exact absurd H (by simp)
      · rw [if_neg c4] at H
        have c4b0 := decide_eq_false c4
        clear c4
        obtain rfl := oI_ H
        go_wp2
        go_ret
        exact ⟨_, by first | rfl | (simp [eN_, eS_] <;> rfl) | (simp [*, eN_, eS_] <;> rfl), rR_ HO_7, bl_ HB⟩
end Go.Proofs.Ytibfkkjkahpobaa.PDag
end
section
namespace Go.Proofs.Ytibfkkjkahpobaa.PDag
attribute [local go_sem] max2_int min2_int max_two min_two max_three min_three max_four min_four   -- for this text's walks alone
end Go.Proofs.Ytibfkkjkahpobaa.PDag
end
section
namespace Go.Proofs.Ytibfkkjkahpobaa.PDag
theorem eqI_refl (x : S24) : eqI x x = true := by unfold eqI; simp
theorem eqB_refl (x : S81) : eqB x x = true := by unfold eqB; simp [eqI_refl]
theorem eqBs_refl (a : List S81) : ∀ n, eqBs a a n = true
  | 0 => rfl
  | n + 1 => by rw [eqBs, eqBs_refl a n, eqB_refl]; rfl
theorem bunF_len (l : List S24) (x : S24) : (bunF l x).length = (endC l x).2.toNat := by
  unfold bunF
  split
  · rw [List.length_set, bunAll_len]
  · exact bunAll_len l x
theorem eqnums_loop (l : List Int) (hl : l.length ≤ 1000000000) : ∀ (d k i : Nat), i + d = l.length → 1 + d ≤ k → r0_EqNumbers.l0 k l l (i : Int) = some true
  | 0, k, i, hi, hk => by
    obtain ⟨k, rfl⟩ : ∃ k', k = k' + 1 := ⟨k - 1, by omega⟩
    unfold r0_EqNumbers.l0
    rw [if_neg (by omega)]
  | d + 1, k, i, hi, hk => by
    obtain ⟨k, rfl⟩ : ∃ k', k = k' + 1 := ⟨k - 1, by omega⟩
    unfold r0_EqNumbers.l0
    rw [if_pos (by omega), if_pos (by omega), if_pos (by omega), if_pos rfl, wrap_at (by omega), eqnums_loop l hl d k (i + 1) (by omega) (by omega)]
theorem eqnums_eq {k : Nat} (l : List Int) (hl : l.length ≤ 1000000) (hk : 2000000 ≤ k) : r0_EqNumbers.f k l l = some true := by
  unfold r0_EqNumbers.f
  rw [if_pos rfl]
  exact eqnums_loop l (by omega) l.length k 0 (by omega) (by omega)
def w15_placed.f (k : Nat) (lb : List ByteArray) (l : List S24) (a2 a3 a4 a5 a6 : Int) (a7 : ByteArray) : Option Bool := if lb.isEmpty = true ∧ mayBlk l ⟨a2, a3, a4, a5, a6, a7⟩ = true then some true else none
theorem placed_true {k : Nat} {lb : List ByteArray} {l : List S24} {a2 a3 a4 a5 a6 : Int} {a7 : ByteArray} {r : Bool} (h : w15_placed.f k lb l a2 a3 a4 a5 a6 a7 = some r) : r = true := by
  unfold w15_placed.f at h
  split at h
  · exact (Option.some.inj h).symm
  · exact absurd h (by simp)
theorem placed_ev (l : List S24) (x : S24) (h : mayBlk l x = true) : Ev (fun k => w15_placed.f k [] l x.f0 x.f1 x.f2 x.f3 x.f4 x.f5) true :=
  ⟨0, fun k _ => by show w15_placed.f k [] l x.f0 x.f1 x.f2 x.f3 x.f4 x.f5 = some true; unfold w15_placed.f; exact if_pos ⟨rfl, h⟩⟩
structure PRows (W : World) (gb : Nat) (A0 : Option Addr) (c0 : Nat) (Al : Option Addr) (cl : Nat) (l : List S24) (x : S24) : Prop where
  b : W.heap[gb]? = some (.cells #[.slice A0 0 c0, .slice Al l.length cl, .int .i64 x.f0, .int .i64 x.f1, .int .i64 x.f2, .int .i64 x.f3, .int .i64 x.f4, .string x.f5] 73 (0, 0))
  l : Kd.C k24 W Al l.length l
theorem PRows.below {W W' : World} {gb : Nat} {A0 : Option Addr} {c0 : Nat} {Al : Option Addr} {cl : Nat} {l : List S24} {x : S24} (h : PRows W gb A0 c0 Al cl l x) (hb : Below W.heap.size W W') : PRows W' gb A0 c0 Al cl l x :=
  ⟨kB_ h.b hb, Kd.C_below h.l hb⟩
theorem PRows.cells {W : World} {gb : Nat} {A0 : Option Addr} {c0 : Nat} {Al : Option Addr} {cl : Nat} {l : List S24} {x : S24} (h : PRows W gb A0 c0 Al cl l x) :
    W.cell? ⟨gb, 0, none⟩ = some (.slice A0 0 c0) ∧ W.cell? ⟨gb, 1, none⟩ = some (.slice Al l.length cl) ∧ W.cell? ⟨gb, 2, none⟩ = some (.int .i64 x.f0) ∧ W.cell? ⟨gb, 3, none⟩ = some (.int .i64 x.f1) ∧ W.cell? ⟨gb, 4, none⟩ = some (.int .i64 x.f2) ∧ W.cell? ⟨gb, 5, none⟩ = some (.int .i64 x.f3) ∧ W.cell? ⟨gb, 6, none⟩ = some (.int .i64 x.f4) ∧ W.cell? ⟨gb, 7, none⟩ = some (.string x.f5) :=
  ⟨(bC_ h.b 0).trans rfl, (bC_ h.b 1).trans rfl, (bC_ h.b 2).trans rfl, (bC_ h.b 3).trans rfl, (bC_ h.b 4).trans rfl, (bC_ h.b 5).trans rfl, (bC_ h.b 6).trans rfl, (bC_ h.b 7).trans rfl⟩
set_option maxRecDepth 100000 in
set_option maxHeartbeats 8000000 in
theorem placed_walk (A0 : Option Addr) (c0 : Nat) (Al : Option Addr) (cl : Nat) (l : List S24) (x : S24) (w : World) (hl : Kd.C k24 w Al l.length l) (hcl : l.length ≤ cl) (h : mayBlk l x = true) :
    Calls Try.prog 44 #[.agg #[.slice A0 0 c0, .slice Al l.length cl, .int .i64 x.f0, .int .i64 x.f1, .int .i64 x.f2, .int .i64 x.f3, .int .i64 x.f4, .string x.f5]] w fun e w' => e = .returned (.bool true) ∧ Below w.heap.size w w' := by
  have hu73 := Try.underlying73
  have hu24 := Try.underlying24
  obtain ⟨ho, hn, hx⟩ := mayBlk_parts h
  have hm : mayL l = true := by
    cases hm : mayL l with
    | true => rfl
    | false => rw [blk_no x hm] at h; exact absurd h (by simp)
  obtain ⟨K, hK⟩ := (ref_cycles l ho hn).rounds
  obtain ⟨hla, hls⟩ := cyc_len ho
  have hb2 := (endC_bd ho hn x).2.1
  have F1 : As_ (sched_Of.f 0 [] l x.f0 x.f1 x.f2 x.f3 x.f4 x.f5 = some (bunF l x, 0)) := ⟨by
    unfold sched_Of.f
    rw [if_pos ⟨rfl, by omega⟩, if_pos h]⟩
  have F2 : As_ (sched_Cycles.f 0 l = some ((cycF l).at_, (cycF l).sl, 0)) := ⟨by
    unfold sched_Cycles.f
    rw [if_pos (by omega), if_pos hm]⟩
  have F3 : As_ (r13_Cycles.f K l = some ((cycF l).at_, (cycF l).sl)) := ⟨hK⟩
  have F4 : As_ (r13_Block.f 0 [] l x.f0 x.f1 x.f2 x.f3 x.f4 x.f5 = some true) := ⟨by
    unfold r13_Block.f
    rw [if_pos ⟨rfl, by omega⟩]
    exact congrArg some h⟩
  have F5 : As_ (r13_Bundles.f 0 [] l x.f0 x.f1 x.f2 x.f3 x.f4 x.f5 = some (bunF l x)) := ⟨by
    unfold r13_Bundles.f
    rw [if_pos ⟨rfl, h⟩]⟩
  have F6 : As_ (r0_EqBundles.f 0 (bunF l x) (bunF l x) = some true) := ⟨by
    unfold r0_EqBundles.f
    rw [if_pos (by rw [bunF_len]; omega), eqBs_refl]
    simp⟩
  have F7 : As_ (r0_EqNumbers.f 2000000 (cycF l).at_ (cycF l).at_ = some true) := ⟨eqnums_eq _ (by omega) (by omega)⟩
  have F8 : As_ (r0_EqNumbers.f 2000000 (cycF l).sl (cycF l).sl = some true) := ⟨eqnums_eq _ (by omega) (by omega)⟩
  have F9 : As_ (w15_num.f 0 = some 0) := ⟨rfl⟩
  have HS : ∀ W : World, Kd.C Kd.string W A0 ([] : List ByteArray).length [] := fun W => ⟨rfl, by decide, fun h => absurd h (by decide)⟩
  have HS' := As_.mk HS
  have HL := As_.mk hl
  clear hl h ho hm hK hla hls hb2 HS
  generalize bunF l x = B at F1 F5 F6
  generalize (cycF l).at_ = va at F2 F3 F7
  generalize (cycF l).sl = vs at F2 F3 F8
  go_enter Try.func44, Try.ntmps44
  go_wp2_with (first | ((with_reducible refine gate_dst (N := 1) rfl ?_); refine bX_ (N := 1) (cs := #[.slice A0 0 c0, .slice Al l.length cl, .int .i64 x.f0, .int .i64 x.f1, .int .i64 x.f2, .int .i64 x.f3, .int .i64 x.f4, .string x.f5]) (t := 73) ?_; intro gb hgb w1 hbox hb; have P1 := As_.mk (PRows.mk (x := x) hbox (Kd.C_below HL.out hb)); have B1 := As_.mk hb; obtain ⟨z0, z1, z2, z3, z4, z5, z6, z7⟩ := P1.out.cells; clear hbox hb hgb HL) | (go_at_call 51; refine (sched_Of.calls 0 A0 c0 [] Al cl l x.f0 x.f1 x.f2 x.f3 x.f4 x.f5 B 0 _ (HS'.out _) (Nat.zero_le _) P1.out.l hcl F1.out).mono ?_; rintro e w2 ⟨v0, rfl, hR, hb⟩; obtain ⟨Ab, cb, rfl⟩ := Kd.R_slice hR; have P2 := As_.mk (P1.out.below hb); have B2 := As_.mk (B1.out.trans (hb.mono B1.out.size)); clear z0 z1 z2 z3 z4 z5 z6 z7 P1 B1 ; have CB2 := As_.mk (Kd.R_reads' hR).2.2; have hcb := (Kd.R_reads' hR).2.1; clear hR; clear hb; obtain ⟨z0, z1, z2, z3, z4, z5, z6, z7⟩ := P2.out.cells) | (go_at_call 47; refine (sched_Cycles.calls 0 Al cl l va vs 0 _ P2.out.l hcl F2.out).mono ?_; rintro e w3 ⟨v0, v1, rfl, hA, hS, hb⟩; obtain ⟨Aa, ca, rfl⟩ := Kd.R_slice hA; obtain ⟨As, cs, rfl⟩ := Kd.R_slice hS; have P3 := As_.mk (P2.out.below hb); have B3 := As_.mk (B2.out.trans (hb.mono B2.out.size)); have CB3 := As_.mk (Kd.C_below CB2.out hb); clear z0 z1 z2 z3 z4 z5 z6 z7 P2 B2 CB2; have CA3 := As_.mk (Kd.R_reads' hA).2.2; have hca := (Kd.R_reads' hA).2.1; have CS3 := As_.mk (Kd.R_reads' hS).2.2; have hcs := (Kd.R_reads' hS).2.1; clear hA hS; clear hb; obtain ⟨z0, z1, z2, z3, z4, z5, z6, z7⟩ := P3.out.cells) | (go_at_call 74; refine (r13_Cycles.calls K Al cl l va vs _ P3.out.l hcl F3.out).mono ?_; rintro e w4 ⟨v0, v1, rfl, hA, hS, hb⟩; obtain ⟨Aw, cw, rfl⟩ := Kd.R_slice hA; obtain ⟨Ap, cp, rfl⟩ := Kd.R_slice hS; have P4 := As_.mk (P3.out.below hb); have B4 := As_.mk (B3.out.trans (hb.mono B3.out.size)); have CB4 := As_.mk (Kd.C_below CB3.out hb); have CA4 := As_.mk (Kd.C_below CA3.out hb); have CS4 := As_.mk (Kd.C_below CS3.out hb); clear z0 z1 z2 z3 z4 z5 z6 z7 P3 B3 CB3 CA3 CS3; have CW4 := As_.mk (Kd.R_reads' hA).2.2; have hcw := (Kd.R_reads' hA).2.1; have CP4 := As_.mk (Kd.R_reads' hS).2.2; have hcp := (Kd.R_reads' hS).2.1; clear hA hS; clear hb; obtain ⟨z0, z1, z2, z3, z4, z5, z6, z7⟩ := P4.out.cells) | (go_at_call 75; refine (r13_Block.calls 0 A0 c0 [] Al cl l x.f0 x.f1 x.f2 x.f3 x.f4 x.f5 true _ (HS'.out _) (Nat.zero_le _) P4.out.l hcl F4.out).mono ?_; rintro e w5 ⟨rfl, hb⟩; have P5 := As_.mk (P4.out.below hb); have B5 := As_.mk (B4.out.trans (hb.mono B4.out.size)); have CB5 := As_.mk (Kd.C_below CB4.out hb); have CA5 := As_.mk (Kd.C_below CA4.out hb); have CS5 := As_.mk (Kd.C_below CS4.out hb); have CW5 := As_.mk (Kd.C_below CW4.out hb); have CP5 := As_.mk (Kd.C_below CP4.out hb); clear z0 z1 z2 z3 z4 z5 z6 z7 P4 B4 CB4 CA4 CS4 CW4 CP4; clear hb; obtain ⟨z0, z1, z2, z3, z4, z5, z6, z7⟩ := P5.out.cells) | (go_at_call 48; refine (w15_num.calls 0 0 w5 F9.out).mono ?_; rintro e w' ⟨rfl, ⟨nd, rfl⟩⟩; have hb := bN_ (Below.refl w5.heap.size w5) nd; generalize World.drewN w5 nd = w6 at hb ⊢; have P6 := As_.mk (P5.out.below hb); have B6 := As_.mk (B5.out.trans (hb.mono B5.out.size)); have CB6 := As_.mk (Kd.C_below CB5.out hb); have CA6 := As_.mk (Kd.C_below CA5.out hb); have CS6 := As_.mk (Kd.C_below CS5.out hb); have CW6 := As_.mk (Kd.C_below CW5.out hb); have CP6 := As_.mk (Kd.C_below CP5.out hb); clear z0 z1 z2 z3 z4 z5 z6 z7 P5 B5 CB5 CA5 CS5 CW5 CP5; clear hb; obtain ⟨z0, z1, z2, z3, z4, z5, z6, z7⟩ := P6.out.cells) | (go_at_call 48; refine (w15_num.calls 0 0 w6 F9.out).mono ?_; rintro e w' ⟨rfl, ⟨nd, rfl⟩⟩; have hb := bN_ (Below.refl w6.heap.size w6) nd; generalize World.drewN w6 nd = w7 at hb ⊢; have P7 := As_.mk (P6.out.below hb); have B7 := As_.mk (B6.out.trans (hb.mono B6.out.size)); have CB7 := As_.mk (Kd.C_below CB6.out hb); have CA7 := As_.mk (Kd.C_below CA6.out hb); have CS7 := As_.mk (Kd.C_below CS6.out hb); have CW7 := As_.mk (Kd.C_below CW6.out hb); have CP7 := As_.mk (Kd.C_below CP6.out hb); clear z0 z1 z2 z3 z4 z5 z6 z7 P6 B6 CB6 CA6 CS6 CW6 CP6; clear hb; obtain ⟨z0, z1, z2, z3, z4, z5, z6, z7⟩ := P7.out.cells) | (go_at_call 77; refine (r13_Bundles.calls 0 A0 c0 [] Al cl l x.f0 x.f1 x.f2 x.f3 x.f4 x.f5 B _ (HS'.out _) (Nat.zero_le _) P7.out.l hcl F5.out).mono ?_; rintro e w8 ⟨v0, rfl, hR, hb⟩; obtain ⟨Ac, cc, rfl⟩ := Kd.R_slice hR; have P8 := As_.mk (P7.out.below hb); have B8 := As_.mk (B7.out.trans (hb.mono B7.out.size)); have CB8 := As_.mk (Kd.C_below CB7.out hb); have CA8 := As_.mk (Kd.C_below CA7.out hb); have CS8 := As_.mk (Kd.C_below CS7.out hb); have CW8 := As_.mk (Kd.C_below CW7.out hb); have CP8 := As_.mk (Kd.C_below CP7.out hb); clear z0 z1 z2 z3 z4 z5 z6 z7 P7 B7 CB7 CA7 CS7 CW7 CP7; have CC8 := As_.mk (Kd.R_reads' hR).2.2; have hcc := (Kd.R_reads' hR).2.1; clear hR; clear hb; obtain ⟨z0, z1, z2, z3, z4, z5, z6, z7⟩ := P8.out.cells) | (go_at_call 76; refine (r0_EqBundles.calls 0 Ab cb B Ac cc B true _ CB8.out hcb CC8.out hcc F6.out).mono ?_; rintro e w' ⟨rfl, ⟨nd, rfl⟩⟩; have hb := bN_ (Below.refl w8.heap.size w8) nd; generalize World.drewN w8 nd = w9 at hb ⊢; have P9 := As_.mk (P8.out.below hb); have B9 := As_.mk (B8.out.trans (hb.mono B8.out.size)); have CB9 := As_.mk (Kd.C_below CB8.out hb); have CA9 := As_.mk (Kd.C_below CA8.out hb); have CS9 := As_.mk (Kd.C_below CS8.out hb); have CW9 := As_.mk (Kd.C_below CW8.out hb); have CP9 := As_.mk (Kd.C_below CP8.out hb); have CC9 := As_.mk (Kd.C_below CC8.out hb); clear z0 z1 z2 z3 z4 z5 z6 z7 P8 B8 CB8 CA8 CS8 CW8 CP8 CC8; clear hb; obtain ⟨z0, z1, z2, z3, z4, z5, z6, z7⟩ := P9.out.cells) | (go_at_call 24; refine (r0_EqNumbers.calls 2000000 Aa ca va Aw cw va true _ CA9.out hca CW9.out hcw F7.out).mono ?_; rintro e w' ⟨rfl, ⟨nd, rfl⟩⟩; have hb := bN_ (Below.refl w9.heap.size w9) nd; generalize World.drewN w9 nd = w10 at hb ⊢; have P10 := As_.mk (P9.out.below hb); have B10 := As_.mk (B9.out.trans (hb.mono B9.out.size)); have CB10 := As_.mk (Kd.C_below CB9.out hb); have CA10 := As_.mk (Kd.C_below CA9.out hb); have CS10 := As_.mk (Kd.C_below CS9.out hb); have CW10 := As_.mk (Kd.C_below CW9.out hb); have CP10 := As_.mk (Kd.C_below CP9.out hb); have CC10 := As_.mk (Kd.C_below CC9.out hb); clear z0 z1 z2 z3 z4 z5 z6 z7 P9 B9 CB9 CA9 CS9 CW9 CP9 CC9; clear hb; obtain ⟨z0, z1, z2, z3, z4, z5, z6, z7⟩ := P10.out.cells) | (go_at_call 24; refine (r0_EqNumbers.calls 2000000 As cs vs Ap cp vs true _ CS10.out hcs CP10.out hcp F8.out).mono ?_; rintro e w' ⟨rfl, ⟨nd, rfl⟩⟩; have hb := bN_ (Below.refl w10.heap.size w10) nd; generalize World.drewN w10 nd = w11 at hb ⊢; have P11 := As_.mk (P10.out.below hb); have B11 := As_.mk (B10.out.trans (hb.mono B10.out.size)); have CB11 := As_.mk (Kd.C_below CB10.out hb); have CA11 := As_.mk (Kd.C_below CA10.out hb); have CS11 := As_.mk (Kd.C_below CS10.out hb); have CW11 := As_.mk (Kd.C_below CW10.out hb); have CP11 := As_.mk (Kd.C_below CP10.out hb); have CC11 := As_.mk (Kd.C_below CC10.out hb); clear z0 z1 z2 z3 z4 z5 z6 z7 P10 B10 CB10 CA10 CS10 CW10 CP10 CC10; clear hb; obtain ⟨z0, z1, z2, z3, z4, z5, z6, z7⟩ := P11.out.cells))
  go_ret
  exact ⟨rfl, B11.out⟩
theorem w15_placed.calls (k : Nat) (A0_0 : Option Addr) (c0_0 : Nat) (l0_0 : List ByteArray) (A0_1 : Option Addr) (c0_1 : Nat) (l0_1 : List (S24)) (a0_2 : Int) (a0_3 : Int) (a0_4 : Int) (a0_5 : Int) (a0_6 : Int) (a0_7 : ByteArray) (r : Bool) (w : World) (hr0_0 : Kd.C Kd.string w A0_0 l0_0.length l0_0) (hc0_0 : l0_0.length ≤ c0_0) (hr0_1 : Kd.C k24 w A0_1 l0_1.length l0_1) (hc0_1 : l0_1.length ≤ c0_1) (h : w15_placed.f k l0_0 l0_1 a0_2 a0_3 a0_4 a0_5 a0_6 a0_7 = some r) :
    Calls Try.prog 44 #[.agg #[.slice A0_0 l0_0.length c0_0, .slice A0_1 l0_1.length c0_1, .int .i64 a0_2, .int .i64 a0_3, .int .i64 a0_4, .int .i64 a0_5, .int .i64 a0_6, .string a0_7]] w fun e w' => e = .returned (.bool r) ∧ Below w.heap.size w w' := by
  unfold w15_placed.f at h
  split at h
  · rename_i hg
    obtain ⟨hlb, hm⟩ := hg
    have hl0 : l0_0 = [] := by simpa using hlb
    subst hl0
    have h := Option.some.inj h
    subst h
    exact placed_walk A0_0 c0_0 A0_1 c0_1 l0_1 ⟨a0_2, a0_3, a0_4, a0_5, a0_6, a0_7⟩ w hr0_1 hc0_1 hm
  · exact absurd h (by simp)
end Go.Proofs.Ytibfkkjkahpobaa.PDag
end
section
namespace Go.Proofs.Ytibfkkjkahpobaa.PDag
def w15_wakes.f (k : Nat) : Option Bool := some true
theorem w15_wakes.mono : ∀ k, LeO (w15_wakes.f k) (w15_wakes.f (k + 1)) := fun _ => LeO.refl _
def wkI : S24 := ⟨23, 1, 0, 0, 5, ⟨#[]⟩⟩
def wkX : List S81 := [⟨wkI, z24, z24, z24⟩, ⟨⟨33, 0, 0, 0, 0, ⟨#[]⟩⟩, z24, z24, z24⟩]
theorem wk_of : sched_Of.f 0 [] [wkI] 33 0 0 0 0 ⟨#[]⟩ = some (wkX, 0) := by kernel_rfl
theorem wk_of0 : sched_Of.f 0 [] [] 0 0 0 0 0 ⟨#[]⟩ = some ([], 0) := by kernel_rfl
theorem lit24_C (w : World) (x : S24) : Kd.C k24 (w.alloc (.cells #[.int .i64 x.f0, .int .i64 x.f1, .int .i64 x.f2, .int .i64 x.f3, .int .i64 x.f4, .string x.f5] 24)) (some ⟨w.heap.size, 0, none⟩) 1 [x] := by
  have hb : (w.alloc (.cells #[.int .i64 x.f0, .int .i64 x.f1, .int .i64 x.f2, .int .i64 x.f3, .int .i64 x.f4, .string x.f5] 24)).heap[w.heap.size]? = some (.cells #[.int .i64 x.f0, .int .i64 x.f1, .int .i64 x.f2, .int .i64 x.f3, .int .i64 x.f4, .string x.f5] 24) := blk_new w _
  refine ⟨rfl, by omega, fun _ => ⟨⟨w.heap.size, 0, none⟩, rfl, fun j p hj => ⟨insC x, rfl, ?_, fun i u hi => ?_⟩⟩⟩
  · obtain rfl : p = x := by
      cases j with
      | zero => simpa using hj.symm
      | succ j => simp at hj
    exact k24_mk _ p
  · have hj0 : j = 0 := by
      cases j with
      | zero => rfl
      | succ j => simp at hj
    subst hj0
    have hc := bC_ hb i
    have ha : (Addr.add ⟨w.heap.size, 0, none⟩ (0 * k24.sz + i)) = ⟨w.heap.size, i, none⟩ := by
      rw [Nat.zero_mul, Nat.zero_add]
      unfold Addr.add
      by_cases h0 : i = 0
      · subst h0; rfl
      · rw [if_neg h0]; simp
    rw [ha, hc]
    simpa [insC] using hi
set_option maxRecDepth 100000 in
set_option maxHeartbeats 8000000 in
theorem wakes_walk (w : World) : Calls Try.prog 46 #[] w fun e w' => e = .returned (.bool true) ∧ Below w.heap.size w w' := by
  have hu73 := Try.underlying73
  have hu24 := Try.underlying24
  have HS' : As_ (∀ W : World, Kd.C Kd.string W none ([] : List ByteArray).length []) := ⟨fun W => ⟨rfl, by decide, fun h => absurd h (by decide)⟩⟩
  have HI' : As_ (∀ W : World, Kd.C k24 W none ([] : List S24).length []) := ⟨fun W => ⟨rfl, by decide, fun h => absurd h (by decide)⟩⟩
  have F9 : As_ (w15_num.f 0 = some 0) := ⟨rfl⟩
  go_enter Try.func46, Try.ntmps46
  go_wp2_with fail
  refine (sched_Of.calls 0 none 0 [] none 0 [] 0 0 0 0 0 ⟨#[]⟩ [] 0 w (HS'.out _) (Nat.le_refl _) (HI'.out _) (Nat.le_refl _) wk_of0).mono ?_
  rintro e w1 ⟨v0, rfl, hR, hb⟩
  obtain ⟨Ab, cb, rfl⟩ := Kd.R_slice hR
  have B1 := As_.mk hb
  clear hR hb
  go_wp2_with fail
  have hC := lit24_C w1 wkI
  have hcall := sched_Of.calls 0 none 0 [] (some ⟨w1.heap.size, 0, none⟩) 1 [wkI] 33 0 0 0 0 ⟨#[]⟩ wkX 0 _ (HS'.out _) (Nat.le_refl _) hC (Nat.le_refl _) wk_of
  refine hcall.mono ?_
  clear hcall hC HS' HI'
  rintro e w2 ⟨v0, rfl, hR, hb⟩
  obtain ⟨Ax, cx, rfl⟩ := Kd.R_slice hR
  have B2 := As_.mk ((bA_ B1.out _).trans (hb.mono (bA_ B1.out _).size))
  have hC := (Kd.R_reads' hR).2.2
  obtain ⟨ad, e1, hc⟩ := hC.2.2 (by decide)
  subst e1
  have cell1 : w2.cell? (ad.add (0 * 24 + 0)) = some (.int .i64 23) := by
    obtain ⟨c, hl, hK, hx⟩ := hc 0 _ rfl
    have hk := k81_open hK
    subst hk
    exact hx 0 _ rfl
  have cell2 : w2.cell? (ad.add (1 * 24 + 0)) = some (.int .i64 33) := by
    obtain ⟨c, hl, hK, hx⟩ := hc 1 _ rfl
    have hk := k81_open hK
    subst hk
    exact hx 0 _ rfl
  simp only [Nat.zero_mul, Nat.one_mul, Nat.add_zero] at cell1 cell2
  have cell0 : w2.cell? ad = some (.int .i64 23) := by
    have h := cell1
    unfold Addr.add at h
    simpa using h
  have cell3 : w2.cell? ⟨ad.block, ad.off + 24, none⟩ = some (.int .i64 33) := by
    have h := cell2
    unfold Addr.add at h
    simpa using h
  clear hc hC hR hb cell1 cell2
  go_wp2_with (go_at_call 48; refine (w15_num.calls 0 0 _ F9.out).mono ?_; rintro e w' ⟨rfl, ⟨nd, rfl⟩⟩)
  go_ret
  exact ⟨rfl, by repeat (first | exact B2.out | apply bN_)⟩
theorem w15_wakes.calls (k : Nat) (r : Bool) (w : World) (h : w15_wakes.f k = some r) : Calls Try.prog 46 #[] w fun e w' => e = .returned (.bool r) ∧ Below w.heap.size w w' := by
  obtain rfl := Option.some.inj h
  exact wakes_walk w
end Go.Proofs.Ytibfkkjkahpobaa.PDag
end
section
namespace Go.Proofs.Ytibfkkjkahpobaa.PDag
set_option maxRecDepth 100000
theorem wakes_true : w15_wakes.f 50 = some true := by kernel_rfl
theorem wakes_ev : Ev (fun k => w15_wakes.f k) true := Ev.of w15_wakes.mono wakes_true
end Go.Proofs.Ytibfkkjkahpobaa.PDag
end
