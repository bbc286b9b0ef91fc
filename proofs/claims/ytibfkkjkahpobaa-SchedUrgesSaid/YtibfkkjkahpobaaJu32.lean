import Derived.Test.YtibfkkjkahpobaaJu15
import Derived.Test.YtibfkkjkahpobaaJu16
import Derived.Test.YtibfkkjkahpobaaJu24
import Derived.Test.YtibfkkjkahpobaaJu26
import Derived.Test.YtibfkkjkahpobaaJu31
import Derived.Test.YtibfkkjkahpobaaJu30
section
-- the texts that this claim needs, out of this session's and its print's (wip/shrink.py)
namespace Go.Proofs.Ytibfkkjkahpobaa.PDag
open Go.RowKit Go.Proofs.YtibfkkjkahpobaaW.PrintWords Go.Proofs.YtibfkkjkahpobaaW.PrintLast Go.Proofs.YtibfkkjkahpobaaW.PrintMore
attribute [local go_sem] max2_int min2_int max_two min_two max_three min_three max_four min_four   -- for this text's walks alone
set_option linter.unusedVariables false
set_option linter.unusedSimpArgs false
mutual
def w15_row.l0 : Nat → Int → Int → List Int → List (S24) → Int → Option ((List (S24)))
  | 0, _, _, _, _, _ => none
  | k + 1, x0, x1, x2, x7, x8 => if x8 < x0 then (if (x2.length : Int) = 0 then (none) else (if 0 ≤ (Int.tmod x8 (x2.length : Int)) then (if (Int.tmod x8 (x2.length : Int)) < (x2.length : Int) then ((r3_Form.f (rd x2 (Int.tmod x8 (x2.length : Int)))).bind fun t683 => ((r3_HasD.f t683).bind fun t684 => (if t684 = true then (w15_row.j1 k x0 x1 x2 x7 x8 t683 (rd x2 (Int.tmod x8 (x2.length : Int))) (Int.tmod (wrap64 (x8 * x1)) 16) 0 0 0 (⟨#[]⟩ : ByteArray)) else (w15_row.j1 k x0 x1 x2 x7 x8 t683 (rd x2 (Int.tmod x8 (x2.length : Int))) 0 0 0 0 (⟨#[]⟩ : ByteArray))))) else (none)) else (none))) else (some x7)
def w15_row.j1 : Nat → Int → Int → List Int → List (S24) → Int → Int → Int → Int → Int → Int → Int → ByteArray → Option ((List (S24)))
  | 0, _, _, _, _, _, _, _, _, _, _, _, _ => none
  | k + 1, x0, x1, x2, x7, x8, x10, x683a, x683b, x683c, x683d, x683e, x683f => (r3_HasA.f x10).bind fun t685 => (if t685 = true then (w15_row.j2 k x0 x1 x2 x7 x8 x10 x683a x683b (Int.tmod (wrap64 ((wrap64 (x8 + 1)) * x1)) 16) x683d x683e x683f) else (w15_row.j2 k x0 x1 x2 x7 x8 x10 x683a x683b x683c x683d x683e x683f))
def w15_row.j2 : Nat → Int → Int → List Int → List (S24) → Int → Int → Int → Int → Int → Int → Int → ByteArray → Option ((List (S24)))
  | 0, _, _, _, _, _, _, _, _, _, _, _, _ => none
  | k + 1, x0, x1, x2, x7, x8, x10, x683a, x683b, x683c, x683d, x683e, x683f => (r3_HasB.f x10).bind fun t686 => (if t686 = true then (if x7.length < 2513169434916 then (w15_row.l0 k x0 x1 x2 (x7 ++ [(⟨x683a, x683b, x683c, Int.tmod (wrap64 ((wrap64 (x8 + 2)) * x1)) 16, x683e, x683f⟩ : S24)]) (wrap64 (x8 + 1))) else (none)) else (if x7.length < 2513169434916 then (w15_row.l0 k x0 x1 x2 (x7 ++ [(⟨x683a, x683b, x683c, x683d, x683e, x683f⟩ : S24)]) (wrap64 (x8 + 1))) else (none)))
end
def w15_row.f (k : Nat) (a0 : Int) (a1 : Int) (l2 : List Int) : Option ((List (S24))) := w15_row.l0 k a0 a1 l2 ([] : List (S24)) 0
set_option maxHeartbeats 8000000 in
set_option maxRecDepth 100000 in
theorem w15_row.calls (k : Nat) (a0 : Int) (a1 : Int) (A2 : Option Addr) (c2 : Nat) (l2 : List Int) (r : List (S24)) (w : World) (hr2 : Kd.C (Kd.int .i64) w A2 l2.length l2) (hc2 : l2.length ≤ c2) (h : w15_row.f k a0 a1 l2 = some r) :
    Calls Try.prog 45 #[.int .i64 a0, .int .i64 a1, .slice A2 l2.length c2] w fun e w' => ∃ v0_ : Value, e = .returned (v0_) ∧ Kd.R k24 24 w' w.heap.size (fun _ => True) v0_ r ∧ Below w.heap.size w w' := by
  have hu24 := Try.underlying24
  have HR2 := As_.mk hr2
  have HC2 := As_.mk hc2
  clear hr2 hc2
  have HB := As_.mk (Below.refl w.heap.size w)
  have H : (w15_row.l0 k a0 a1 l2 ([] : List (S24)) 0) = some r := h
  clear h
  have H' := As_.mk H
  clear H
  go_enter Try.func45, Try.ntmps45
  go_wp2
  go_loopg [7, 8] k (fun kq v7 v8 w' => ∃ (x7_1 : List (S24)) (x8_1 : Int), v8 = .int .i64 x8_1 ∧ As_ (w15_row.l0 kq a0 a1 l2 x7_1 x8_1 = some r) ∧ As_ (kq ≤ k) ∧ As_ (Kd.R k24 24 w' w.heap.size (fun _ => True) v7 x7_1) ∧ As_ (Below w.heap.size w w'))
  case atStart => exact ⟨(([] : List (S24))), (0), (by first | rfl | (simp; done) | (simp [*]; done) | (simp [wrap64]; done) | (congr 1; rw [Bool.eq_iff_iff]; simp; done)), H', ⟨Nat.le_refl _⟩, ⟨by first | exact Kd.R_nil _ _ _ _ _ | exact Kd.N_nil _ _ _ _ _ | exact Kd.V_nil _ _ _ _ _ | exact Kd.Q_nil _ _ _ _ _ | exact Kd.S_nil _ _ _ _ _⟩, ⟨by repeat (first | (with_reducible first | exact HB.out | apply bA_ | apply bN_ | apply b1_) | exact HB.out)⟩⟩
  case round =>
    clear H'
    (try clear c2); (try clear p2)
    obtain ⟨x7_1, x8_1, rfl, HA, HK1, HO_7, HB⟩ := hrel
    cases gk with
    | zero => exact absurd HA.out (by simp [w15_row.l0])
    | succ k1 =>
      have H := HA.out
      clear HA
      simp only [w15_row.l0] at H
      by_cases c4 : x8_1 < a0
      · rw [if_pos c4] at H
        have c4b0 : decide (x8_1 < a0) = true := decide_eq_true c4
        clear c4
        by_cases c5 : (l2.length : Int) = 0
        · rw [if_pos c5] at H
          exact absurd H (by simp)
        · rw [if_neg c5] at H
          have c5b0 : ((l2.length : Int) == 0) = false := beq_eq_false_iff_ne.mpr c5
          have c5b1 : ((l2.length : Int) != 0) = true := bne_iff_ne.mpr c5
          have c5b2 : ¬ (l2 = []) := fun h_ => c5 (by rw [h_]; rfl)
          obtain ⟨ji6, hji6⟩ : ∃ j_ : Int, (Int.tmod x8_1 (l2.length : Int)) = j_ := ⟨_, rfl⟩
          replace H : (if 0 ≤ (ji6) then (if (ji6) < (l2.length : Int) then ((r3_Form.f (rd l2 (ji6))).bind fun t683 => ((r3_HasD.f t683).bind fun t684 => (if t684 = true then (w15_row.j1 k1 a0 a1 l2 x7_1 x8_1 t683 (rd l2 (ji6)) (Int.tmod (wrap64 (x8_1 * a1)) 16) 0 0 0 (⟨#[]⟩ : ByteArray)) else (w15_row.j1 k1 a0 a1 l2 x7_1 x8_1 t683 (rd l2 (ji6)) 0 0 0 0 (⟨#[]⟩ : ByteArray))))) else (none)) else (none)) = some r := by first | (rw [hji6] at H; exact H) | (simp only [hji6] at H ⊢; exact H)
          by_cases c7 : 0 ≤ (ji6)
          · rw [if_pos c7] at H
            have c7b0 : decide (0 ≤ (ji6)) = true := decide_eq_true c7
            clear c7
            by_cases c8 : (ji6) < (l2.length : Int)
            · rw [if_pos c8] at H
              have c8b0 : decide ((ji6) < (l2.length : Int)) = true := decide_eq_true c8
              clear c8
              replace H := Option.bind_eq_some_iff.mp H
              obtain ⟨t683, A90, H⟩ := H
              replace H : ((r3_HasD.f t683).bind fun t684 => (if t684 = true then (w15_row.j1 k1 a0 a1 l2 x7_1 x8_1 t683 (rd l2 (ji6)) (Int.tmod (wrap64 (x8_1 * a1)) 16) 0 0 0 (⟨#[]⟩ : ByteArray)) else (w15_row.j1 k1 a0 a1 l2 x7_1 x8_1 t683 (rd l2 (ji6)) 0 0 0 0 (⟨#[]⟩ : ByteArray)))) = some r := H
              have A9 := As_.mk A90
              clear A90
              replace H := Option.bind_eq_some_iff.mp H
              obtain ⟨t684, A100, H⟩ := H
              replace H : (if t684 = true then (w15_row.j1 k1 a0 a1 l2 x7_1 x8_1 t683 (rd l2 (ji6)) (Int.tmod (wrap64 (x8_1 * a1)) 16) 0 0 0 (⟨#[]⟩ : ByteArray)) else (w15_row.j1 k1 a0 a1 l2 x7_1 x8_1 t683 (rd l2 (ji6)) 0 0 0 0 (⟨#[]⟩ : ByteArray))) = some r := H
              have A10 := As_.mk A100
              clear A100
              have HC11 := As_.mk H
              clear H
              have p681 : 0 ≤ ((ji6) : Int) := of_decide_eq_true (by assumption)
              have q681 : (ji6) < (l2.length : Int) := of_decide_eq_true (by assumption)
              obtain ⟨ad681, e681, hx681_0⟩ := Kd.at_int HR2.out (ji6) p681 q681
              cases e681
              replace hx681_0 := (HB.out.cell (World.block_lt_of_cell? w _ hx681_0)).trans hx681_0
              replace p681 := eq_true p681
              replace q681 := eq_true q681
              go_upto_if 28 with (first | ((with_reducible refine gate_dst (N := 9) rfl ?_); refine box_event ?hg (N := 9) ?hd (cs := #[.int .i64 0, .int .i64 0, .int .i64 0, .int .i64 0, .int .i64 0, .string (⟨#[]⟩ : ByteArray)]) (t := 24) ?hr ?_; (case hd => rfl); (case hg => rfl); (case hr => first | (go_simp; done) | (go_simp; rfl)); intro gb682 hg w12 hbox hb; have n0_ := As_.mk (Kd.R_below (Kd.R_elderB (by (with_reducible repeat (first | apply Kd.R_alloc | apply Kd.R_drewN | apply Kd.R_drew)); exact HO_7.out) gb682 (Nat.le_of_eq hg.symm)) hb); have n1_ := As_.mk (bT_ (by repeat (first | (with_reducible first | exact HB.out | apply bA_ | apply bN_ | apply b1_) | exact HB.out)) hb); have n2_ := As_.mk (hbox); have n3_ := As_.mk ((by rw [hg]; exact (bY_ (by repeat (first | (with_reducible first | exact HB.out | apply bA_ | apply bN_ | apply b1_) | exact HB.out))) : w.heap.size ≤ gb682)); have n4_ := As_.mk ((by rw [hg]; exact (bY_ (by repeat (first | (with_reducible first | exact HB.out | apply bA_ | apply bN_ | apply b1_) | exact HB.out))) : w.heap.size ≤ gb682)); clear HO_7; clear HB; have HO_7 := n0_; have HB := n1_; have BK682 := n2_; have GW682 := n3_; have GE682 := n4_; clear n0_ n1_ n2_ n3_ n4_; clear hb hbox hg; have hcz13_0 : w12.cell? ⟨gb682, 0, none⟩ = some (.int .i64 0) := (bC_ BK682.out 0).trans rfl; have hcz13_1 : w12.cell? ⟨gb682, 1, none⟩ = some (.int .i64 0) := (bC_ BK682.out 1).trans rfl; have hcz13_2 : w12.cell? ⟨gb682, 2, none⟩ = some (.int .i64 0) := (bC_ BK682.out 2).trans rfl; have hcz13_3 : w12.cell? ⟨gb682, 3, none⟩ = some (.int .i64 0) := (bC_ BK682.out 3).trans rfl; have hcz13_4 : w12.cell? ⟨gb682, 4, none⟩ = some (.int .i64 0) := (bC_ BK682.out 4).trans rfl; have hcz13_5 : w12.cell? ⟨gb682, 5, none⟩ = some (.string (⟨#[]⟩ : ByteArray)) := (bC_ BK682.out 5).trans rfl; have hfz13_0 := bZ_ BK682.out 0; have hfz13_1 := bZ_ BK682.out 1; have hfz13_2 := bZ_ BK682.out 2; have hfz13_3 := bZ_ BK682.out 3; have hfz13_4 := bZ_ BK682.out 4; have hfz13_5 := bZ_ BK682.out 5) | ((with_reducible refine gC_ (f := 15) rfl ?_); refine goesL_ (some 26) rfl rfl Try.func15 (by kernel_rfl) rfl #[.int .i64 (rd l2 (ji6))] rfl (by (try simp only [List.map_toArray, List.map_cons, List.map_nil]); first | done | (simp only [hji6]; rfl) | rfl | (simp only [List.length_drop, List.length_take]; rfl)) ?_; (with_reducible refine (r3_Form.calls (rd l2 (ji6)) t683 _ A9.out).mono ?_); rintro e w14 ⟨rfl, hb⟩; refine ⟨_, rfl, ?_⟩; have n0_ := As_.mk (Kd.R_below (by (with_reducible repeat (first | apply Kd.R_alloc | apply Kd.R_drewN | apply Kd.R_drew)); exact (Kd.R_mono (Kd.R_far (p := ⟨gb682, 5, none⟩) (Kd.R_far (p := ⟨gb682, 4, none⟩) (Kd.R_far (p := ⟨gb682, 3, none⟩) (Kd.R_far (p := ⟨gb682, 2, none⟩) (Kd.R_far (p := ⟨gb682, 1, none⟩) (Kd.R_far (p := ⟨gb682, 0, none⟩) (Kd.R_mono HO_7.out (fun k_ hk => (⟨hk, hk.2⟩ : _ ∧ k_ ≠ gb682))) (fun _ hk => hk.2) (.int .i64 (rd l2 (ji6)))) (fun _ hk => hk.2) (.int .i64 0)) (fun _ hk => hk.2) (.int .i64 0)) (fun _ hk => hk.2) (.int .i64 0)) (fun _ hk => hk.2) (.int .i64 0)) (fun _ hk => hk.2) (.string (⟨#[]⟩ : ByteArray))) (fun _ h_ => h_.1))) hb); have n1_ := As_.mk (kB_ (g := gb682) (o := .cells #[.int .i64 (rd l2 (ji6)), .int .i64 0, .int .i64 0, .int .i64 0, .int .i64 0, .string (⟨#[]⟩ : ByteArray)] 24 (0, 0)) (by (with_reducible repeat (first | refine kN_ ?_ _ | refine kD_ ?_ | refine kA_ ?_ _)); refine blk_put (cs := #[.int .i64 (rd l2 (ji6)), .int .i64 0, .int .i64 0, .int .i64 0, .int .i64 0, .string (⟨#[]⟩ : ByteArray)]) ?_ 5 _ rfl; (with_reducible repeat (first | refine kN_ ?_ _ | refine kD_ ?_ | refine kA_ ?_ _)); refine blk_put (cs := #[.int .i64 (rd l2 (ji6)), .int .i64 0, .int .i64 0, .int .i64 0, .int .i64 0, .string (⟨#[]⟩ : ByteArray)]) ?_ 4 _ rfl; (with_reducible repeat (first | refine kN_ ?_ _ | refine kD_ ?_ | refine kA_ ?_ _)); refine blk_put (cs := #[.int .i64 (rd l2 (ji6)), .int .i64 0, .int .i64 0, .int .i64 0, .int .i64 0, .string (⟨#[]⟩ : ByteArray)]) ?_ 3 _ rfl; (with_reducible repeat (first | refine kN_ ?_ _ | refine kD_ ?_ | refine kA_ ?_ _)); refine blk_put (cs := #[.int .i64 (rd l2 (ji6)), .int .i64 0, .int .i64 0, .int .i64 0, .int .i64 0, .string (⟨#[]⟩ : ByteArray)]) ?_ 2 _ rfl; (with_reducible repeat (first | refine kN_ ?_ _ | refine kD_ ?_ | refine kA_ ?_ _)); refine blk_put (cs := #[.int .i64 (rd l2 (ji6)), .int .i64 0, .int .i64 0, .int .i64 0, .int .i64 0, .string (⟨#[]⟩ : ByteArray)]) ?_ 1 _ rfl; (with_reducible repeat (first | refine kN_ ?_ _ | refine kD_ ?_ | refine kA_ ?_ _)); refine blk_put (cs := #[.int .i64 0, .int .i64 0, .int .i64 0, .int .i64 0, .int .i64 0, .string (⟨#[]⟩ : ByteArray)]) ?_ 0 _ rfl; (with_reducible repeat (first | refine kN_ ?_ _ | refine kD_ ?_ | refine kA_ ?_ _)); exact BK682.out) hb); have n2_ := As_.mk (bT_ (by repeat (first | (with_reducible first | exact HB.out | apply bA_ | apply bN_ | apply b1_ | refine bS_ ?_ GE682.out) | exact HB.out)) hb); clear HO_7; clear BK682; clear HB; have HO_7 := n0_; have BK682 := n1_; have HB := n2_; clear n0_ n1_ n2_) | ((with_reducible refine gC_ (f := 16) rfl ?_); refine goesL_ (some 28) rfl rfl Try.func16 (by kernel_rfl) rfl #[.int .i64 t683] rfl (by (try simp only [List.map_toArray, List.map_cons, List.map_nil]); first | done | rfl | (simp only [List.length_drop, List.length_take]; rfl)) ?_; (with_reducible refine (r3_HasD.calls t683 t684 _ A10.out).mono ?_); rintro e w' ⟨rfl, ⟨nd, rfl⟩⟩; refine ⟨_, rfl, ?_⟩))
              (try simp only [Act.put, List.setIfInBounds_toArray, List.set_cons_zero, List.set_cons_succ])
              go_cut [] (fun wc => ∃ (kq : Nat) (x683b_10 : Int), As_ (w15_row.j1 kq a0 a1 l2 x7_1 x8_1 t683 (rd l2 (ji6)) x683b_10 0 0 0 (⟨#[]⟩ : ByteArray) = some r) ∧ As_ (kq ≤ k1) ∧ As_ (Kd.R k24 24 wc w.heap.size (fun k_ => k_ ≠ gb682) u7 x7_1) ∧ As_ (wc.heap[gb682]? = some (.cells #[.int .i64 (rd l2 (ji6)), .int .i64 x683b_10, .int .i64 0, .int .i64 0, .int .i64 0, .string (⟨#[]⟩ : ByteArray)] 24 (0, 0))) ∧ As_ (Below w.heap.size w wc))
              case first =>
                have H := HC11.out
                clear HC11
                by_cases c15 : t684 = true
                · subst c15
                  have H1 : (w15_row.j1 k1 a0 a1 l2 x7_1 x8_1 t683 (rd l2 (ji6)) (Int.tmod (wrap64 (x8_1 * a1)) 16) 0 0 0 (⟨#[]⟩ : ByteArray)) = some r := by rw [if_pos rfl] at H; exact H
                  clear H
                  have H := H1
                  clear H1
                  have H' := As_.mk H
                  clear H
                  have hcz16_0 : w14.cell? ⟨gb682, 0, none⟩ = some (.int .i64 (rd l2 (ji6))) := (bC_ BK682.out 0).trans rfl
                  have hcz16_1 : w14.cell? ⟨gb682, 1, none⟩ = some (.int .i64 0) := (bC_ BK682.out 1).trans rfl
                  have hcz16_2 : w14.cell? ⟨gb682, 2, none⟩ = some (.int .i64 0) := (bC_ BK682.out 2).trans rfl
                  have hcz16_3 : w14.cell? ⟨gb682, 3, none⟩ = some (.int .i64 0) := (bC_ BK682.out 3).trans rfl
                  have hcz16_4 : w14.cell? ⟨gb682, 4, none⟩ = some (.int .i64 0) := (bC_ BK682.out 4).trans rfl
                  have hcz16_5 : w14.cell? ⟨gb682, 5, none⟩ = some (.string (⟨#[]⟩ : ByteArray)) := (bC_ BK682.out 5).trans rfl
                  have hfz16_0 := bZ_ BK682.out 0
                  have hfz16_1 := bZ_ BK682.out 1
                  have hfz16_2 := bZ_ BK682.out 2
                  have hfz16_3 := bZ_ BK682.out 3
                  have hfz16_4 := bZ_ BK682.out 4
                  have hfz16_5 := bZ_ BK682.out 5
                  go_wp2
                  go_meet
                  case rel => exact ⟨_, (Int.tmod (wrap64 (x8_1 * a1)) 16), H', ⟨by have := HK1.out; first | omega | exact Nat.le_refl _⟩, ⟨by (with_reducible repeat (first | apply Kd.R_alloc | apply Kd.R_drewN | apply Kd.R_drew)); exact Kd.R_mono (Kd.R_far (p := ⟨gb682, 1, none⟩) (Kd.R_mono HO_7.out (fun k_ hk => (⟨hk, hk.2⟩ : _ ∧ k_ ≠ gb682))) (fun _ hk => hk.2) (.int .i64 (Int.tmod (wrap64 (x8_1 * a1)) 16))) (fun _ hk => hk.1.2)⟩, ⟨by (with_reducible repeat (first | refine kN_ ?_ _ | refine kD_ ?_ | refine kA_ ?_ _)); refine blk_put (cs := #[.int .i64 (rd l2 (ji6)), .int .i64 0, .int .i64 0, .int .i64 0, .int .i64 0, .string (⟨#[]⟩ : ByteArray)]) ?_ 1 _ rfl; (with_reducible repeat (first | refine kN_ ?_ _ | refine kD_ ?_ | refine kA_ ?_ _)); exact BK682.out⟩, ⟨by repeat (first | (with_reducible first | exact HB.out | apply bA_ | apply bN_ | apply b1_ | refine bS_ ?_ GE682.out) | exact HB.out)⟩⟩
                · replace c15 := Bool.eq_false_iff.mpr c15
                  subst c15
                  have H1 : (w15_row.j1 k1 a0 a1 l2 x7_1 x8_1 t683 (rd l2 (ji6)) 0 0 0 0 (⟨#[]⟩ : ByteArray)) = some r := by rw [if_neg (show ¬ (false = true) by decide)] at H; exact H
                  clear H
                  have H := H1
                  clear H1
                  have H' := As_.mk H
                  clear H
                  go_wp2
                  go_meet
                  case rel => exact ⟨_, (0), H', ⟨by have := HK1.out; first | omega | exact Nat.le_refl _⟩, ⟨by (with_reducible repeat (first | apply Kd.R_alloc | apply Kd.R_drewN | apply Kd.R_drew)); exact Kd.R_mono HO_7.out (fun _ hk => hk.2)⟩, ⟨by (with_reducible repeat (first | refine kN_ ?_ _ | refine kD_ ?_ | refine kA_ ?_ _)); exact BK682.out⟩, ⟨by repeat (first | (with_reducible first | exact HB.out | apply bA_ | apply bN_ | apply b1_ | refine bS_ ?_ GE682.out) | exact HB.out)⟩⟩
              case rest =>
                clear HC11
                (try clear c1); (try clear c2); (try clear p2); (try clear c4); (try clear c4b0); (try clear c5); (try clear c5b0); (try clear c5b1); (try clear c5b2); (try clear p6); (try clear q6); (try clear hx6); (try clear c7); (try clear c7b0); (try clear c8); (try clear c8b0); (try clear c15); (try clear c16); (try clear hcz13_0); (try clear hcz13_1); (try clear hcz13_2); (try clear hcz13_3); (try clear hcz13_4); (try clear hcz13_5); (try clear hcz16_0); (try clear hcz16_1); (try clear hcz16_2); (try clear hcz16_3); (try clear hcz16_4); (try clear hcz16_5); (try clear hfz13_0); (try clear hfz13_1); (try clear hfz13_2); (try clear hfz13_3); (try clear hfz13_4); (try clear hfz13_5); (try clear hfz16_0); (try clear hfz16_1); (try clear hfz16_2); (try clear hfz16_3); (try clear hfz16_4); (try clear hfz16_5); (try clear hx681_0); (try clear p2); (try clear p681); (try clear q681)
                obtain ⟨kq, x683b_10, HA, HJ10, HO_7, BK682, HB⟩ := hcut
                cases kq with
                | zero => exact absurd HA.out (by simp [w15_row.j1])
                | succ kj10 =>
                  have H := HA.out
                  clear HA
                  simp only [w15_row.j1] at H
                  replace H := Option.bind_eq_some_iff.mp H
                  obtain ⟨t685, A170, H⟩ := H
                  replace H : (if t685 = true then (w15_row.j2 kj10 a0 a1 l2 x7_1 x8_1 t683 (rd l2 (ji6)) x683b_10 (Int.tmod (wrap64 ((wrap64 (x8_1 + 1)) * a1)) 16) 0 0 (⟨#[]⟩ : ByteArray)) else (w15_row.j2 kj10 a0 a1 l2 x7_1 x8_1 t683 (rd l2 (ji6)) x683b_10 0 0 0 (⟨#[]⟩ : ByteArray))) = some r := H
                  have A17 := As_.mk A170
                  clear A170
                  have HC18 := As_.mk H
                  clear H
                  go_upto_if 35 with (first | ((with_reducible refine gC_ (f := 17) rfl ?_); refine goesL_ (some 35) rfl rfl Try.func17 (by kernel_rfl) rfl #[.int .i64 t683] rfl (by (try simp only [List.map_toArray, List.map_cons, List.map_nil]); first | done | rfl | (simp only [List.length_drop, List.length_take]; rfl)) ?_; (with_reducible refine (r3_HasA.calls t683 t685 _ A17.out).mono ?_); rintro e w' ⟨rfl, ⟨nd, rfl⟩⟩; refine ⟨_, rfl, ?_⟩))
                  (try simp only [Act.put, List.setIfInBounds_toArray, List.set_cons_zero, List.set_cons_succ])
                  go_cut [] (fun wc => ∃ (kq : Nat) (x683c_17 : Int), As_ (w15_row.j2 kq a0 a1 l2 x7_1 x8_1 t683 (rd l2 (ji6)) x683b_10 x683c_17 0 0 (⟨#[]⟩ : ByteArray) = some r) ∧ As_ (kq ≤ kj10) ∧ As_ (Kd.R k24 24 wc w.heap.size (fun k_ => k_ ≠ gb682) u7 x7_1) ∧ As_ (wc.heap[gb682]? = some (.cells #[.int .i64 (rd l2 (ji6)), .int .i64 x683b_10, .int .i64 x683c_17, .int .i64 0, .int .i64 0, .string (⟨#[]⟩ : ByteArray)] 24 (0, 0))) ∧ As_ (Below w.heap.size w wc))
                  case first =>
                    have H := HC18.out
                    clear HC18
                    by_cases c19 : t685 = true
                    · subst c19
                      have H1 : (w15_row.j2 kj10 a0 a1 l2 x7_1 x8_1 t683 (rd l2 (ji6)) x683b_10 (Int.tmod (wrap64 ((wrap64 (x8_1 + 1)) * a1)) 16) 0 0 (⟨#[]⟩ : ByteArray)) = some r := by rw [if_pos rfl] at H; exact H
                      clear H
                      have H := H1
                      clear H1
                      have H' := As_.mk H
                      clear H
                      have hcz20_0 : wc.cell? ⟨gb682, 0, none⟩ = some (.int .i64 (rd l2 (ji6))) := (bC_ BK682.out 0).trans rfl
                      have hcz20_1 : wc.cell? ⟨gb682, 1, none⟩ = some (.int .i64 x683b_10) := (bC_ BK682.out 1).trans rfl
                      have hcz20_2 : wc.cell? ⟨gb682, 2, none⟩ = some (.int .i64 0) := (bC_ BK682.out 2).trans rfl
                      have hcz20_3 : wc.cell? ⟨gb682, 3, none⟩ = some (.int .i64 0) := (bC_ BK682.out 3).trans rfl
                      have hcz20_4 : wc.cell? ⟨gb682, 4, none⟩ = some (.int .i64 0) := (bC_ BK682.out 4).trans rfl
                      have hcz20_5 : wc.cell? ⟨gb682, 5, none⟩ = some (.string (⟨#[]⟩ : ByteArray)) := (bC_ BK682.out 5).trans rfl
                      have hfz20_0 := bZ_ BK682.out 0
                      have hfz20_1 := bZ_ BK682.out 1
                      have hfz20_2 := bZ_ BK682.out 2
                      have hfz20_3 := bZ_ BK682.out 3
                      have hfz20_4 := bZ_ BK682.out 4
                      have hfz20_5 := bZ_ BK682.out 5
                      go_wp2
                      go_meet
                      case rel => exact ⟨_, (Int.tmod (wrap64 ((wrap64 (x8_1 + 1)) * a1)) 16), H', ⟨by have := HK1.out; have := HJ10.out; first | omega | exact Nat.le_refl _⟩, ⟨by (with_reducible repeat (first | apply Kd.R_alloc | apply Kd.R_drewN | apply Kd.R_drew)); exact Kd.R_mono (Kd.R_far (p := ⟨gb682, 2, none⟩) (Kd.R_mono HO_7.out (fun k_ hk => (⟨hk, hk⟩ : _ ∧ k_ ≠ gb682))) (fun _ hk => hk.2) (.int .i64 (Int.tmod (wrap64 ((wrap64 (x8_1 + 1)) * a1)) 16))) (fun _ hk => hk.1)⟩, ⟨by (with_reducible repeat (first | refine kN_ ?_ _ | refine kD_ ?_ | refine kA_ ?_ _)); refine blk_put (cs := #[.int .i64 (rd l2 (ji6)), .int .i64 x683b_10, .int .i64 0, .int .i64 0, .int .i64 0, .string (⟨#[]⟩ : ByteArray)]) ?_ 2 _ rfl; (with_reducible repeat (first | refine kN_ ?_ _ | refine kD_ ?_ | refine kA_ ?_ _)); exact BK682.out⟩, ⟨by repeat (first | (with_reducible first | exact HB.out | apply bA_ | apply bN_ | apply b1_ | refine bS_ ?_ GE682.out) | exact HB.out)⟩⟩
                    · replace c19 := Bool.eq_false_iff.mpr c19
                      subst c19
                      have H1 : (w15_row.j2 kj10 a0 a1 l2 x7_1 x8_1 t683 (rd l2 (ji6)) x683b_10 0 0 0 (⟨#[]⟩ : ByteArray)) = some r := by rw [if_neg (show ¬ (false = true) by decide)] at H; exact H
                      clear H
                      have H := H1
                      clear H1
                      have H' := As_.mk H
                      clear H
                      go_wp2
                      go_meet
                      case rel => exact ⟨_, (0), H', ⟨by have := HK1.out; have := HJ10.out; first | omega | exact Nat.le_refl _⟩, ⟨by (with_reducible repeat (first | apply Kd.R_alloc | apply Kd.R_drewN | apply Kd.R_drew)); exact HO_7.out⟩, ⟨by (with_reducible repeat (first | refine kN_ ?_ _ | refine kD_ ?_ | refine kA_ ?_ _)); exact BK682.out⟩, ⟨by repeat (first | (with_reducible first | exact HB.out | apply bA_ | apply bN_ | apply b1_ | refine bS_ ?_ GE682.out) | exact HB.out)⟩⟩
                  case rest =>
                    clear HC18
                    (try clear c1); (try clear c2); (try clear p2); (try clear c4); (try clear c4b0); (try clear c5); (try clear c5b0); (try clear c5b1); (try clear c5b2); (try clear p6); (try clear q6); (try clear hx6); (try clear c7); (try clear c7b0); (try clear c8); (try clear c8b0); (try clear c15); (try clear c16); (try clear c17); (try clear c19); (try clear hcz13_0); (try clear hcz13_1); (try clear hcz13_2); (try clear hcz13_3); (try clear hcz13_4); (try clear hcz13_5); (try clear hcz16_0); (try clear hcz16_1); (try clear hcz16_2); (try clear hcz16_3); (try clear hcz16_4); (try clear hcz16_5); (try clear hcz20_0); (try clear hcz20_1); (try clear hcz20_2); (try clear hcz20_3); (try clear hcz20_4); (try clear hcz20_5); (try clear hfz13_0); (try clear hfz13_1); (try clear hfz13_2); (try clear hfz13_3); (try clear hfz13_4); (try clear hfz13_5); (try clear hfz16_0); (try clear hfz16_1); (try clear hfz16_2); (try clear hfz16_3); (try clear hfz16_4); (try clear hfz16_5); (try clear hfz20_0); (try clear hfz20_1); (try clear hfz20_2); (try clear hfz20_3); (try clear hfz20_4); (try clear hfz20_5); (try clear hx681_0); (try clear p2); (try clear p6); (try clear p681); (try clear q6); (try clear q681)
                    obtain ⟨kq, x683c_17, HA, HJ17, HO_7, BK682, HB⟩ := hcut
                    cases kq with
                    | zero => exact absurd HA.out (by simp [w15_row.j2])
                    | succ kj17 =>
                      have H := HA.out
                      clear HA
                      simp only [w15_row.j2] at H
                      replace H := Option.bind_eq_some_iff.mp H
                      obtain ⟨t686, A210, H⟩ := H
                      replace H : (if t686 = true then (if x7_1.length < 2513169434916 then (w15_row.l0 kj17 a0 a1 l2 (x7_1 ++ [(⟨(rd l2 (ji6)), x683b_10, x683c_17, Int.tmod (wrap64 ((wrap64 (x8_1 + 2)) * a1)) 16, 0, (⟨#[]⟩ : ByteArray)⟩ : S24)]) (wrap64 (x8_1 + 1))) else (none)) else (if x7_1.length < 2513169434916 then (w15_row.l0 kj17 a0 a1 l2 (x7_1 ++ [(⟨(rd l2 (ji6)), x683b_10, x683c_17, 0, 0, (⟨#[]⟩ : ByteArray)⟩ : S24)]) (wrap64 (x8_1 + 1))) else (none))) = some r := H
                      have A21 := As_.mk A210
                      clear A210
                      by_cases c22 : t686 = true
                      · subst c22
                        have H1 : (if x7_1.length < 2513169434916 then (w15_row.l0 kj17 a0 a1 l2 (x7_1 ++ [(⟨(rd l2 (ji6)), x683b_10, x683c_17, Int.tmod (wrap64 ((wrap64 (x8_1 + 2)) * a1)) 16, 0, (⟨#[]⟩ : ByteArray)⟩ : S24)]) (wrap64 (x8_1 + 1))) else (none)) = some r := by rw [if_pos rfl] at H; exact H
                        clear H
                        have H := H1
                        clear H1
                        by_cases c23 : x7_1.length < 2513169434916
                        · rw [if_pos c23] at H
                          have LMc23 := As_.mk c23
                          clear c23
                          obtain ⟨y687, hy687⟩ : ∃ y_ : List (S24), y_ = (x7_1 ++ [(⟨(rd l2 (ji6)), x683b_10, x683c_17, Int.tmod (wrap64 ((wrap64 (x8_1 + 2)) * a1)) 16, 0, (⟨#[]⟩ : ByteArray)⟩ : S24)]) := ⟨_, rfl⟩
                          replace H : (w15_row.l0 kj17 a0 a1 l2 y687 (wrap64 (x8_1 + 1))) = some r := by first | (rw [hy687]; with_reducible exact H) | (have H2_ := (Option.bind_some _ _).symm.trans H; rw [hy687]; with_reducible exact H2_) | (have H2_ := (Option.bind_some _ _).symm.trans H; with_reducible exact H2_) | with_reducible exact H | (rw [hy687]; exact H) | exact H
                          have Ny687 := As_.mk hy687
                          clear hy687
                          have H' := As_.mk H
                          clear H
                          go_wp2_with (first | ((with_reducible refine gC_ (f := 18) rfl ?_); refine goesL_ (some 43) rfl rfl Try.func18 (by kernel_rfl) rfl #[.int .i64 t683] rfl (by (try simp only [List.map_toArray, List.map_cons, List.map_nil]); first | done | rfl | (simp only [List.length_drop, List.length_take]; rfl)) ?_; (with_reducible refine (r3_HasB.calls t683 true _ A21.out).mono ?_); rintro e w' ⟨rfl, ⟨nd, rfl⟩⟩; refine ⟨_, rfl, ?_⟩; (try (rw [drewN_self wc]; generalize hq_ : World.drewN wc _ = wc; have n0_ : As_ (Kd.R k24 24 wc w.heap.size (fun k_ => k_ ≠ gb682) u7 x7_1) := ⟨by rw [← hq_]; exact (by (with_reducible repeat (first | apply Kd.R_alloc | apply Kd.R_drewN | apply Kd.R_drew)); exact HO_7.out)⟩; have n1_ : As_ (wc.heap[gb682]? = some (.cells #[.int .i64 (rd l2 (ji6)), .int .i64 x683b_10, .int .i64 x683c_17, .int .i64 0, .int .i64 0, .string (⟨#[]⟩ : ByteArray)] 24 (0, 0))) := ⟨by rw [← hq_]; exact (by (with_reducible repeat (first | refine kN_ ?_ _ | refine kD_ ?_ | refine kA_ ?_ _)); exact BK682.out)⟩; have n2_ : As_ (Below w.heap.size w wc) := ⟨by rw [← hq_]; exact (by repeat (first | (with_reducible first | exact HB.out | apply bA_ | apply bN_ | apply b1_ | refine bS_ ?_ GE682.out) | exact HB.out))⟩; clear HO_7 BK682 HB hq_; have HO_7 := n0_; have BK682 := n1_; have HB := n2_; clear n0_ n1_ n2_)); have hcz24_0 : wc.cell? ⟨gb682, 0, none⟩ = some (.int .i64 (rd l2 (ji6))) := (bC_ BK682.out 0).trans rfl; have hcz24_1 : wc.cell? ⟨gb682, 1, none⟩ = some (.int .i64 x683b_10) := (bC_ BK682.out 1).trans rfl; have hcz24_2 : wc.cell? ⟨gb682, 2, none⟩ = some (.int .i64 x683c_17) := (bC_ BK682.out 2).trans rfl; have hcz24_3 : wc.cell? ⟨gb682, 3, none⟩ = some (.int .i64 0) := (bC_ BK682.out 3).trans rfl; have hcz24_4 : wc.cell? ⟨gb682, 4, none⟩ = some (.int .i64 0) := (bC_ BK682.out 4).trans rfl; have hcz24_5 : wc.cell? ⟨gb682, 5, none⟩ = some (.string (⟨#[]⟩ : ByteArray)) := (bC_ BK682.out 5).trans rfl; have hfz24_0 := bZ_ BK682.out 0; have hfz24_1 := bZ_ BK682.out 1; have hfz24_2 := bZ_ BK682.out 2; have hfz24_3 := bZ_ BK682.out 3; have hfz24_4 := bZ_ BK682.out 4; have hfz24_5 := bZ_ BK682.out 5) | ((with_reducible refine gate_builtin (b := .append) (xs := #[.tmp 50, .tmp 52]) rfl ?_); at_builtin; refine Kd.R_append k24 (w0 := w) w.heap.size rfl (.tmp 50) (.tmp 52) 22 24 (.agg #[(.int .i64 0), (.int .i64 0), (.int .i64 0), (.int .i64 0), (.int .i64 0), (.string ⟨#[]⟩)]) 56 rfl Try.underlying22 info24 rfl (by decide) (by omega) u7 x7_1 (⟨(rd l2 (ji6)), x683b_10, x683c_17, Int.tmod (wrap64 ((wrap64 (x8_1 + 2)) * a1)) 16, 0, (⟨#[]⟩ : ByteArray)⟩ : S24) [.int .i64 (rd l2 (ji6)), .int .i64 x683b_10, .int .i64 x683c_17, .int .i64 (Int.tmod (wrap64 ((wrap64 (x8_1 + 2)) * a1)) 16), .int .i64 0, .string (⟨#[]⟩ : ByteArray)] (fun k_ => k_ ≠ gb682) (fun _ => False) rfl (by first | (go_simp; done) | (go_simp; rfl)) ?aP (fun _ hk => hk.elim) ?aF ?aO ?aB ?aS ?aL ?_; (case aP => exact k24_mkM _ _ _ (⟨(rd l2 (ji6)), x683b_10, x683c_17, Int.tmod (wrap64 ((wrap64 (x8_1 + 2)) * a1)) 16, 0, (⟨#[]⟩ : ByteArray)⟩ : S24)); (case aB => exact (by repeat (first | (with_reducible first | exact HB.out | apply bA_ | apply bN_ | apply b1_ | refine bS_ ?_ GE682.out) | exact HB.out))); (case aF => exact (fun k_ hk => Kd.freshB (g := gb682) (o := .cells #[.int .i64 (rd l2 (ji6)), .int .i64 x683b_10, .int .i64 x683c_17, .int .i64 (Int.tmod (wrap64 ((wrap64 (x8_1 + 2)) * a1)) 16), .int .i64 0, .string (⟨#[]⟩ : ByteArray)] 24 (0, 0)) (by (with_reducible repeat (first | refine kN_ ?_ _ | refine kD_ ?_ | refine kA_ ?_ _)); refine blk_put (cs := #[.int .i64 (rd l2 (ji6)), .int .i64 x683b_10, .int .i64 x683c_17, .int .i64 0, .int .i64 0, .string (⟨#[]⟩ : ByteArray)]) ?_ 3 _ rfl; (with_reducible repeat (first | refine kN_ ?_ _ | refine kD_ ?_ | refine kA_ ?_ _)); exact BK682.out) k_ hk)); (case aO => exact (by (with_reducible repeat (first | apply Kd.R_alloc | apply Kd.R_drewN | apply Kd.R_drew)); exact Kd.R_mono (Kd.R_far (p := ⟨gb682, 3, none⟩) (Kd.R_mono HO_7.out (fun k_ hk => (⟨hk, hk⟩ : _ ∧ k_ ≠ gb682))) (fun _ hk => hk.2) (.int .i64 (Int.tmod (wrap64 ((wrap64 (x8_1 + 2)) * a1)) 16))) (fun _ hk => hk.1))); (case aS => exact (bY_ (by repeat (first | (with_reducible first | exact HB.out | apply bA_ | apply bN_ | apply b1_ | refine bS_ ?_ GE682.out) | exact HB.out)))); (case aL => have := LMc23.out; omega); intro v688 w25 ho hb hg hat; rw [← Ny687.out] at ho; have n0_ := As_.mk (blk_grown (g := gb682) (o := .cells #[.int .i64 (rd l2 (ji6)), .int .i64 x683b_10, .int .i64 x683c_17, .int .i64 (Int.tmod (wrap64 ((wrap64 (x8_1 + 2)) * a1)) 16), .int .i64 0, .string (⟨#[]⟩ : ByteArray)] 24 (0, 0)) (by (with_reducible repeat (first | refine kN_ ?_ _ | refine kD_ ?_ | refine kA_ ?_ _)); refine blk_put (cs := #[.int .i64 (rd l2 (ji6)), .int .i64 x683b_10, .int .i64 x683c_17, .int .i64 0, .int .i64 0, .string (⟨#[]⟩ : ByteArray)]) ?_ 3 _ rfl; (with_reducible repeat (first | refine kN_ ?_ _ | refine kD_ ?_ | refine kA_ ?_ _)); exact BK682.out) hg (Kd.R_away HO_7.out (fun _ hk => hk))); have n1_ := As_.mk (hb); have n2_ := As_.mk (ho); clear BK682; clear HB; clear HO_7; have BK682 := n0_; have HB := n1_; have HO689 := n2_; clear n0_ n1_ n2_; clear ho hb hg hat))
                          go_roundg kj17
                          case measure => have := HK1.out; have := HJ10.out; have := HJ17.out; omega
                          case rel => exact ⟨(y687), (wrap64 (x8_1 + 1)), (by first | rfl | (simp; done) | (simp [*]; done) | (simp [wrap64]; done) | (congr 1; rw [Bool.eq_iff_iff]; simp; done)), H', ⟨by have := HK1.out; have := HJ10.out; have := HJ17.out; omega⟩, ⟨by (with_reducible repeat (first | apply Kd.R_alloc | apply Kd.R_drewN | apply Kd.R_drew)); exact Kd.R_mono HO689.out (fun _ hk => trivial)⟩, ⟨by repeat (first | (with_reducible first | exact HB.out | apply bA_ | apply bN_ | apply b1_ | refine bS_ ?_ GE682.out) | exact HB.out)⟩⟩
                        · rw [if_neg c23] at H
                          exact absurd H (by simp)
                      · replace c22 := Bool.eq_false_iff.mpr c22
                        subst c22
                        have H1 : (if x7_1.length < 2513169434916 then (w15_row.l0 kj17 a0 a1 l2 (x7_1 ++ [(⟨(rd l2 (ji6)), x683b_10, x683c_17, 0, 0, (⟨#[]⟩ : ByteArray)⟩ : S24)]) (wrap64 (x8_1 + 1))) else (none)) = some r := by rw [if_neg (show ¬ (false = true) by decide)] at H; exact H
                        clear H
                        have H := H1
                        clear H1
                        by_cases c26 : x7_1.length < 2513169434916
                        · rw [if_pos c26] at H
                          have LMc26 := As_.mk c26
                          clear c26
                          obtain ⟨y690, hy690⟩ : ∃ y_ : List (S24), y_ = (x7_1 ++ [(⟨(rd l2 (ji6)), x683b_10, x683c_17, 0, 0, (⟨#[]⟩ : ByteArray)⟩ : S24)]) := ⟨_, rfl⟩
                          replace H : (w15_row.l0 kj17 a0 a1 l2 y690 (wrap64 (x8_1 + 1))) = some r := by first | (rw [hy690]; with_reducible exact H) | (have H2_ := (Option.bind_some _ _).symm.trans H; rw [hy690]; with_reducible exact H2_) | (have H2_ := (Option.bind_some _ _).symm.trans H; with_reducible exact H2_) | with_reducible exact H | (rw [hy690]; exact H) | exact H
                          have Ny690 := As_.mk hy690
                          clear hy690
                          have H' := As_.mk H
                          clear H
                          go_wp2_with (first | ((with_reducible refine gC_ (f := 18) rfl ?_); refine goesL_ (some 43) rfl rfl Try.func18 (by kernel_rfl) rfl #[.int .i64 t683] rfl (by (try simp only [List.map_toArray, List.map_cons, List.map_nil]); first | done | rfl | (simp only [List.length_drop, List.length_take]; rfl)) ?_; (with_reducible refine (r3_HasB.calls t683 false _ A21.out).mono ?_); rintro e w' ⟨rfl, ⟨nd, rfl⟩⟩; refine ⟨_, rfl, ?_⟩; have hcz27_0 : wc.cell? ⟨gb682, 0, none⟩ = some (.int .i64 (rd l2 (ji6))) := (bC_ BK682.out 0).trans rfl; have hcz27_1 : wc.cell? ⟨gb682, 1, none⟩ = some (.int .i64 x683b_10) := (bC_ BK682.out 1).trans rfl; have hcz27_2 : wc.cell? ⟨gb682, 2, none⟩ = some (.int .i64 x683c_17) := (bC_ BK682.out 2).trans rfl; have hcz27_3 : wc.cell? ⟨gb682, 3, none⟩ = some (.int .i64 0) := (bC_ BK682.out 3).trans rfl; have hcz27_4 : wc.cell? ⟨gb682, 4, none⟩ = some (.int .i64 0) := (bC_ BK682.out 4).trans rfl; have hcz27_5 : wc.cell? ⟨gb682, 5, none⟩ = some (.string (⟨#[]⟩ : ByteArray)) := (bC_ BK682.out 5).trans rfl; have hfz27_0 := bZ_ BK682.out 0; have hfz27_1 := bZ_ BK682.out 1; have hfz27_2 := bZ_ BK682.out 2; have hfz27_3 := bZ_ BK682.out 3; have hfz27_4 := bZ_ BK682.out 4; have hfz27_5 := bZ_ BK682.out 5) | ((with_reducible refine gate_builtin (b := .append) (xs := #[.tmp 50, .tmp 52]) rfl ?_); at_builtin; refine Kd.R_append k24 (w0 := w) w.heap.size rfl (.tmp 50) (.tmp 52) 22 24 (.agg #[(.int .i64 0), (.int .i64 0), (.int .i64 0), (.int .i64 0), (.int .i64 0), (.string ⟨#[]⟩)]) 56 rfl Try.underlying22 info24 rfl (by decide) (by omega) u7 x7_1 (⟨(rd l2 (ji6)), x683b_10, x683c_17, 0, 0, (⟨#[]⟩ : ByteArray)⟩ : S24) [.int .i64 (rd l2 (ji6)), .int .i64 x683b_10, .int .i64 x683c_17, .int .i64 0, .int .i64 0, .string (⟨#[]⟩ : ByteArray)] (fun k_ => k_ ≠ gb682) (fun _ => False) rfl rfl ?aP (fun _ hk => hk.elim) ?aF ?aO ?aB ?aS ?aL ?_; (case aP => exact k24_mkM _ _ _ (⟨(rd l2 (ji6)), x683b_10, x683c_17, 0, 0, (⟨#[]⟩ : ByteArray)⟩ : S24)); (case aB => exact (by repeat (first | (with_reducible first | exact HB.out | apply bA_ | apply bN_ | apply b1_ | refine bS_ ?_ GE682.out) | exact HB.out))); (case aF => exact (fun k_ hk => Kd.freshB (g := gb682) (o := .cells #[.int .i64 (rd l2 (ji6)), .int .i64 x683b_10, .int .i64 x683c_17, .int .i64 0, .int .i64 0, .string (⟨#[]⟩ : ByteArray)] 24 (0, 0)) (by (with_reducible repeat (first | refine kN_ ?_ _ | refine kD_ ?_ | refine kA_ ?_ _)); exact BK682.out) k_ hk)); (case aO => exact (by (with_reducible repeat (first | apply Kd.R_alloc | apply Kd.R_drewN | apply Kd.R_drew)); exact HO_7.out)); (case aS => exact (bY_ (by repeat (first | (with_reducible first | exact HB.out | apply bA_ | apply bN_ | apply b1_ | refine bS_ ?_ GE682.out) | exact HB.out)))); (case aL => have := LMc26.out; omega); intro v691 w28 ho hb hg hat; rw [← Ny690.out] at ho; have n0_ := As_.mk (blk_grown (g := gb682) (o := .cells #[.int .i64 (rd l2 (ji6)), .int .i64 x683b_10, .int .i64 x683c_17, .int .i64 0, .int .i64 0, .string (⟨#[]⟩ : ByteArray)] 24 (0, 0)) (by (with_reducible repeat (first | refine kN_ ?_ _ | refine kD_ ?_ | refine kA_ ?_ _)); exact BK682.out) hg (Kd.R_away HO_7.out (fun _ hk => hk))); have n1_ := As_.mk (hb); have n2_ := As_.mk (ho); clear BK682; clear HB; clear HO_7; have BK682 := n0_; have HB := n1_; have HO692 := n2_; clear n0_ n1_ n2_; clear ho hb hg hat))
                          go_roundg kj17
                          case measure => have := HK1.out; have := HJ10.out; have := HJ17.out; omega
                          case rel => exact ⟨(y690), (wrap64 (x8_1 + 1)), (by first | rfl | (simp; done) | (simp [*]; done) | (simp [wrap64]; done) | (congr 1; rw [Bool.eq_iff_iff]; simp; done)), H', ⟨by have := HK1.out; have := HJ10.out; have := HJ17.out; omega⟩, ⟨by (with_reducible repeat (first | apply Kd.R_alloc | apply Kd.R_drewN | apply Kd.R_drew)); exact Kd.R_mono HO692.out (fun _ hk => trivial)⟩, ⟨by repeat (first | (with_reducible first | exact HB.out | apply bA_ | apply bN_ | apply b1_ | refine bS_ ?_ GE682.out) | exact HB.out)⟩⟩
                        · rw [if_neg c26] at H
                          exact absurd H (by simp)
            · rw [if_neg c8] at H
              exact absurd H (by simp)
          · rw [if_neg c7] at H
            exact absurd H (by simp)
      · rw [if_neg c4] at H
        have c4b0 : decide (x8_1 < a0) = false := decide_eq_false c4
        clear c4
        obtain rfl := Option.some.inj H
        go_wp2
        go_ret
        exact ⟨_, by first | rfl | (simp [eN_, eS_] <;> rfl) | (simp [*, eN_, eS_] <;> rfl), by (with_reducible repeat (first | apply Kd.R_alloc | apply Kd.R_drewN | apply Kd.R_drew)); exact HO_7.out, by repeat (first | (with_reducible first | exact HB.out | apply bA_ | apply bN_ | apply b1_) | exact HB.out)⟩
end Go.Proofs.Ytibfkkjkahpobaa.PDag
end
section
-- the texts that this claim needs, out of this session's and its print's (wip/shrink.py)
set_option linter.unusedSimpArgs false
set_option linter.unusedVariables false
namespace Go.Proofs.Ytibfkkjkahpobaa.PDag
open Go.RowKit Go.Proofs.YtibfkkjkahpobaaW.PrintWords Go.Proofs.YtibfkkjkahpobaaW.PrintLast Go.Proofs.YtibfkkjkahpobaaW.PrintMore
attribute [local go_sem] Oper.semAt_some
def sched_Of.f (k : Nat) (lb : List ByteArray) (l : List S24) (a2 a3 a4 a5 a6 : Int) (a7 : ByteArray) : Option (List S81 × Int) :=
  if lb.isEmpty = true ∧ l.length ≤ 1000000000 then some (if mayBlk l ⟨a2, a3, a4, a5, a6, a7⟩ = true then (bunF l ⟨a2, a3, a4, a5, a6, a7⟩, 0) else ([], 1)) else none
theorem mayBlk_parts {l : List S24} {x : S24} (h : mayBlk l x = true) : okA l ∧ l.length ≤ 200 ∧ 0 ≤ x.f0 ∧ x.f0 ≤ 33 := by
  unfold mayBlk at h
  rw [Bool.and_eq_true] at h
  have ho : okA l := fun y hy => plain_ok (List.all_eq_true.1 h.1 y hy)
  refine ⟨ho, ?_⟩
  split at h
  · rename_i hz
    have h2 := of_decide_eq_true h.2
    unfold zeroI at hz
    simp only [Bool.and_eq_true, beq_iff_eq] at hz
    exact ⟨h2, by omega⟩
  · have h2 := h.2
    simp only [Bool.and_eq_true, decide_eq_true_eq] at h2
    have h3 := okI_op h2.1
    exact ⟨by omega, h3⟩
set_option maxRecDepth 100000 in
set_option maxHeartbeats 8000000 in
theorem sched_Of.calls (k : Nat) (A0_0 : Option Addr) (c0_0 : Nat) (l0_0 : List ByteArray) (A0_1 : Option Addr) (c0_1 : Nat) (l0_1 : List S24) (a0_2 a0_3 a0_4 a0_5 a0_6 : Int) (a0_7 : ByteArray) (r1 : List S81) (r2 : Int) (w : World)
    (hr0_0 : Kd.C Kd.string w A0_0 l0_0.length l0_0) (hc0_0 : l0_0.length ≤ c0_0) (hr0_1 : Kd.C k24 w A0_1 l0_1.length l0_1) (hc0_1 : l0_1.length ≤ c0_1) (h : sched_Of.f k l0_0 l0_1 a0_2 a0_3 a0_4 a0_5 a0_6 a0_7 = some (r1, r2)) :
    Calls Try.prog 51 #[.agg #[.slice A0_0 l0_0.length c0_0, .slice A0_1 l0_1.length c0_1, .int .i64 a0_2, .int .i64 a0_3, .int .i64 a0_4, .int .i64 a0_5, .int .i64 a0_6, .string a0_7]] w fun e w' => ∃ v0_ : Value, e = .returned (.tuple #[v0_, .int .i64 r2]) ∧ Kd.R k81 81 w' w.heap.size (fun _ => True) v0_ r1 ∧ Below w.heap.size w w' := by
  have hu73 := Try.underlying73
  have hu24 := Try.underlying24
  unfold sched_Of.f at h
  split at h
  · rename_i hg
    obtain ⟨hlb, hlen⟩ := hg
    have hl0 : l0_0 = [] := by simpa using hlb
    subst hl0
    have h := Option.some.inj h
    have HL := As_.mk hr0_1
    generalize hx : (⟨a0_2, a0_3, a0_4, a0_5, a0_6, a0_7⟩ : S24) = x at h
    have e2 : a0_2 = x.f0 := by rw [← hx]
    have e3 : a0_3 = x.f1 := by rw [← hx]
    have e4 : a0_4 = x.f2 := by rw [← hx]
    have e5 : a0_5 = x.f3 := by rw [← hx]
    have e6 : a0_6 = x.f4 := by rw [← hx]
    have e7 : a0_7 = x.f5 := by rw [← hx]
    clear hx
    subst e2 e3 e4 e5 e6 e7
    have HM := As_.mk (fun W gx hg hC => block_May.calls0 gx A0_0 c0_0 A0_1 c0_1 1 l0_1 x W hg hC hc0_1 hlen)
    clear hr0_0 hr0_1 hlb
    cases hm : mayBlk l0_1 x with
    | false =>
      rw [hm] at h HM
      simp only [Bool.false_eq_true, if_false, Prod.mk.injEq] at h
      obtain ⟨rfl, rfl⟩ := h
      clear hm
      rw [show ([] : List ByteArray).length = 0 from rfl]
      go_enter Try.func51, Try.ntmps51
      go_wp2_with (first | ((with_reducible refine gate_dst (N := 1) rfl ?_); refine box_event ?hg (N := 1) ?hd (cs := #[.slice A0_0 0 c0_0, .slice A0_1 l0_1.length c0_1, .int .i64 x.f0, .int .i64 x.f1, .int .i64 x.f2, .int .i64 x.f3, .int .i64 x.f4, .string x.f5]) (t := 73) ?hr ?_; (case hd => rfl); (case hg => rfl); (case hr => first | (go_simp; done) | (go_simp; rfl)); intro gb hgb w1 hbox hb; have x0 : w1.cell? ⟨gb, 0, none⟩ = some (.slice A0_0 0 c0_0) := (bC_ hbox 0).trans rfl; have x1 : w1.cell? ⟨gb, 1, none⟩ = some (.slice A0_1 l0_1.length c0_1) := (bC_ hbox 1).trans rfl; have x2 : w1.cell? ⟨gb, 2, none⟩ = some (.int .i64 x.f0) := (bC_ hbox 2).trans rfl; have x3 : w1.cell? ⟨gb, 3, none⟩ = some (.int .i64 x.f1) := (bC_ hbox 3).trans rfl; have x4 : w1.cell? ⟨gb, 4, none⟩ = some (.int .i64 x.f2) := (bC_ hbox 4).trans rfl; have x5 : w1.cell? ⟨gb, 5, none⟩ = some (.int .i64 x.f3) := (bC_ hbox 5).trans rfl; have x6 : w1.cell? ⟨gb, 6, none⟩ = some (.int .i64 x.f4) := (bC_ hbox 6).trans rfl; have x7 : w1.cell? ⟨gb, 7, none⟩ = some (.string x.f5) := (bC_ hbox 7).trans rfl; have BX := As_.mk hbox; have HB := As_.mk hb; have HAL := As_.mk (bA_ (Below.refl w1.heap.size w1) (.cells #[.slice A0_0 0 c0_0, .slice A0_1 l0_1.length c0_1, .int .i64 x.f0, .int .i64 x.f1, .int .i64 x.f2, .int .i64 x.f3, .int .i64 x.f4, .string x.f5] 73)); have HNB := As_.mk (blk_new w1 (.cells #[.slice A0_0 0 c0_0, .slice A0_1 l0_1.length c0_1, .int .i64 x.f0, .int .i64 x.f1, .int .i64 x.f2, .int .i64 x.f3, .int .i64 x.f4, .string x.f5] 73)); have HB15 := As_.mk (hb.trans (HAL.out.mono hb.size)); clear hbox hb hgb) | (go_at_call 83; refine (HM.out _ w1.heap.size HNB.out (Kd.C_below HL.out HB15.out)).mono ?_; rintro e w3 ⟨rfl, hb⟩; have HB2 := As_.mk (HB15.out.trans (hb.mono HB15.out.size)); have BX2 := As_.mk (kB_ (kB_ BX.out HAL.out) hb); clear hb x0 x1 x2 x3 x4 x5 x6 x7))
      go_ret2
      exact ⟨_, rfl, Kd.R_nil _ _ _ _ _, HB2.out⟩
    | true =>
      rw [hm] at h HM
      simp only [if_true, Prod.mk.injEq] at h
      obtain ⟨rfl, rfl⟩ := h
      obtain ⟨ho, hn, hx0⟩ := mayBlk_parts hm
      have HO := As_.mk ho
      clear hm ho
      rw [show ([] : List ByteArray).length = 0 from rfl]
      go_enter Try.func51, Try.ntmps51
      go_wp2_with (first | ((with_reducible refine gate_dst (N := 1) rfl ?_); refine box_event ?hg (N := 1) ?hd (cs := #[.slice A0_0 0 c0_0, .slice A0_1 l0_1.length c0_1, .int .i64 x.f0, .int .i64 x.f1, .int .i64 x.f2, .int .i64 x.f3, .int .i64 x.f4, .string x.f5]) (t := 73) ?hr ?_; (case hd => rfl); (case hg => rfl); (case hr => first | (go_simp; done) | (go_simp; rfl)); intro gb hgb w1 hbox hb; have x0 : w1.cell? ⟨gb, 0, none⟩ = some (.slice A0_0 0 c0_0) := (bC_ hbox 0).trans rfl; have x1 : w1.cell? ⟨gb, 1, none⟩ = some (.slice A0_1 l0_1.length c0_1) := (bC_ hbox 1).trans rfl; have x2 : w1.cell? ⟨gb, 2, none⟩ = some (.int .i64 x.f0) := (bC_ hbox 2).trans rfl; have x3 : w1.cell? ⟨gb, 3, none⟩ = some (.int .i64 x.f1) := (bC_ hbox 3).trans rfl; have x4 : w1.cell? ⟨gb, 4, none⟩ = some (.int .i64 x.f2) := (bC_ hbox 4).trans rfl; have x5 : w1.cell? ⟨gb, 5, none⟩ = some (.int .i64 x.f3) := (bC_ hbox 5).trans rfl; have x6 : w1.cell? ⟨gb, 6, none⟩ = some (.int .i64 x.f4) := (bC_ hbox 6).trans rfl; have x7 : w1.cell? ⟨gb, 7, none⟩ = some (.string x.f5) := (bC_ hbox 7).trans rfl; have BX := As_.mk hbox; have HB := As_.mk hb; have HAL := As_.mk (bA_ (Below.refl w1.heap.size w1) (.cells #[.slice A0_0 0 c0_0, .slice A0_1 l0_1.length c0_1, .int .i64 x.f0, .int .i64 x.f1, .int .i64 x.f2, .int .i64 x.f3, .int .i64 x.f4, .string x.f5] 73)); have HNB := As_.mk (blk_new w1 (.cells #[.slice A0_0 0 c0_0, .slice A0_1 l0_1.length c0_1, .int .i64 x.f0, .int .i64 x.f1, .int .i64 x.f2, .int .i64 x.f3, .int .i64 x.f4, .string x.f5] 73)); have HB15 := As_.mk (hb.trans (HAL.out.mono hb.size)); clear hbox hb hgb) | (go_at_call 83; refine (HM.out _ w1.heap.size HNB.out (Kd.C_below HL.out HB15.out)).mono ?_; rintro e w3 ⟨rfl, hb⟩; have HB2 := As_.mk (HB15.out.trans (hb.mono HB15.out.size)); have BX2 := As_.mk (kB_ (kB_ BX.out HAL.out) hb); clear hb x0 x1 x2 x3 x4 x5 x6 x7; have y0 : w3.cell? ⟨gb, 0, none⟩ = some (.slice A0_0 0 c0_0) := (bC_ BX2.out 0).trans rfl; have y1 : w3.cell? ⟨gb, 1, none⟩ = some (.slice A0_1 l0_1.length c0_1) := (bC_ BX2.out 1).trans rfl; have y2 : w3.cell? ⟨gb, 2, none⟩ = some (.int .i64 x.f0) := (bC_ BX2.out 2).trans rfl; have y3 : w3.cell? ⟨gb, 3, none⟩ = some (.int .i64 x.f1) := (bC_ BX2.out 3).trans rfl; have y4 : w3.cell? ⟨gb, 4, none⟩ = some (.int .i64 x.f2) := (bC_ BX2.out 4).trans rfl; have y5 : w3.cell? ⟨gb, 5, none⟩ = some (.int .i64 x.f3) := (bC_ BX2.out 5).trans rfl; have y6 : w3.cell? ⟨gb, 6, none⟩ = some (.int .i64 x.f4) := (bC_ BX2.out 6).trans rfl; have y7 : w3.cell? ⟨gb, 7, none⟩ = some (.string x.f5) := (bC_ BX2.out 7).trans rfl) | (go_at_call 84; refine (sched_Bundles.calls A0_0 0 c0_0 A0_1 c0_1 l0_1 x _ (Kd.C_below HL.out HB2.out) hc0_1 HO.out hn hx0).mono ?_; rintro e w4 ⟨v9, rfl, hR, hb⟩; have HR := As_.mk hR; have HB3 := As_.mk hb; clear hR hb))
      go_ret2
      exact ⟨_, rfl, Kd.R_lower HR.out HB2.out.size, HB2.out.trans (HB3.out.mono HB2.out.size)⟩
  · exact absurd h (by simp)
end Go.Proofs.Ytibfkkjkahpobaa.PDag
end
