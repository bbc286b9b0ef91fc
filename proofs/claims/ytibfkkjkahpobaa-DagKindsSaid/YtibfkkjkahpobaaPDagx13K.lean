-- the texts that this claim needs, out of this session's and its print's (wip/shrink.py)
import Derived.Test.YtibfkkjkahpobaaPDagx0K
import Derived.Test.YtibfkkjkahpobaaPDagx12K
namespace Go.Proofs.Ytibfkkjkahpobaa.PDag
open Go.RowKit Go.Proofs.YtibfkkjkahpobaaW.PrintWords Go.Proofs.YtibfkkjkahpobaaW.PrintLast Go.Proofs.YtibfkkjkahpobaaW.PrintMore
attribute [local go_sem] max2_int min2_int max_two min_two max_three min_three max_four min_four   -- for this text's walks alone
set_option linter.unusedVariables false
set_option linter.unusedSimpArgs false
mutual
def r13_Edges.l0 : Nat → List (S24) → List (S51) → Int → Option ((List (S51)))
 | 0, _, _, _ => none
 | k + 1, x0, x3, x4 => if x4 < (x0.length : Int) then (r13_Edges.l1 k x0 x3 x4 (wrap64 (x4 + 1))) else (some x3)
def r13_Edges.l1 : Nat → List (S24) → List (S51) → Int → Int → Option ((List (S51)))
 | 0, _, _, _, _ => none
 | k + 1, x0, x3, x4, x5 => if x5 < (x0.length : Int) then (if 0 ≤ x4 then (if x4 < (x0.length : Int) then (if 0 ≤ x5 then ((r13_dist.f k ((q24 x0 x4).f0) ((q24 x0 x4).f1) ((q24 x0 x4).f2) ((q24 x0 x4).f3) ((q24 x0 x4).f4) ((q24 x0 x4).f5) ((q24 x0 x5).f0) ((q24 x0 x5).f1) ((q24 x0 x5).f2) ((q24 x0 x5).f3) ((q24 x0 x5).f4) ((q24 x0 x5).f5)).bind fun t233 => (if t233 ≥ 0 then (if x3.length < 5864062014805 then (r13_Edges.l1 k x0 (x3 ++ [(⟨x4, x5, t233⟩ : S51)]) x4 (wrap64 (x5 + 1))) else (none)) else (r13_Edges.l1 k x0 x3 x4 (wrap64 (x5 + 1))))) else (none)) else (none)) else (none)) else (r13_Edges.l0 k x0 x3 (wrap64 (x4 + 1)))
end
def r13_Edges.f (k : Nat) (l0 : List (S24)) : Option ((List (S51))) := r13_Edges.l0 k l0 ([] : List (S51)) 0
def r13_Edges.T8 : Bool × List (List Nat × List Nat) := (true, [([], []), ([], []), ([0, 1], [0, 1]), ([2], [2]), ([], []), ([], []), ([4, 5], [4, 5]), ([6], [6]), ([3, 7], [3, 7]), ([8, 8, 0, 1, 2, 3, 4, 5, 6, 7, 8], [8])])
def r13_Edges.B8 : List Nat := [0, 0, 3, 7, 0, 0, 48, 112, 255, 511]
theorem r13_Edges.tab8 : rtab .any (opsOf Try.f23 8) = r13_Edges.T8 := by kernel_rfl
theorem r13_Edges.bits8 : waitsOk r13_Edges.T8.2 r13_Edges.B8 = true := by kernel_rfl
set_option maxHeartbeats 8000000 in
set_option maxRecDepth 100000 in
theorem r13_Edges.calls (k : Nat) (A0 : Option Addr) (c0 : Nat) (l0 : List (S24)) (r : List (S51)) (w : World) (hr0 : Kd.C k24 w A0 l0.length l0) (hc0 : l0.length ≤ c0) (h : r13_Edges.f k l0 = some r) :
  Calls Try.prog 23 #[.slice A0 l0.length c0] w fun e w' => ∃ v0_ : Value, e = .returned (v0_) ∧ Kd.R k51 51 w' w.heap.size (fun _ => True) v0_ r ∧ Below w.heap.size w w' := by
 have hu24 := Try.underlying24
 have hu51 := Try.underlying51
 have HR0 := Aside0.mk hr0
 have HC0 := Aside0.mk hc0
 clear hr0 hc0
 have HB := Aside0.mk (Below.refl w.heap.size w)
 have H : (r13_Edges.l0 k l0 ([] : List (S51)) 0) = some r := h
 clear h
 have H' := Aside0.mk H
 clear H
 go_enter Try.func23, Try.ntmps23
 go_wp2
 go_loopg [3, 4] k (fun kq v3 v4 w' => ∃ (x3_1 : List (S51)) (x4_1 : Int), v4 = .int .i64 x4_1 ∧ Aside0 (r13_Edges.l0 kq l0 x3_1 x4_1 = some r) ∧ Aside0 (kq ≤ k) ∧ Aside0 (Kd.R k51 51 w' w.heap.size (fun _ => True) v3 x3_1) ∧ Aside0 (Below w.heap.size w w'))
 case atStart => exact ⟨(([] : List (S51))), (0), (by first | rfl | (simp; done) | (simp [*]; done) | (simp [wrap64]; done) | (congr 1; rw [Bool.eq_iff_iff]; simp; done)), H', ⟨Nat.le_refl _⟩, ⟨by first | exact Kd.R_nil _ _ _ _ _ | exact Kd.N_nil _ _ _ _ _ | exact Kd.V_nil _ _ _ _ _ | exact Kd.Q_nil _ _ _ _ _ | exact Kd.S_nil _ _ _ _ _⟩, ⟨by repeat (first | (with_reducible first | exact HB.out | apply below_alloc | apply pw_below_drewN | apply below_drew1) | exact HB.out)⟩⟩
 case round =>
  clear H'
  obtain ⟨x3_1, x4_1, rfl, HA, HK1, HO_3, HB⟩ := hrel
  cases gk with
  | zero => exact absurd HA.out (by simp [r13_Edges.l0])
  | succ k1 =>
   have H := HA.out
   clear HA
   simp only [r13_Edges.l0] at H
   by_cases c2 : x4_1 < (l0.length : Int)
   ·rw [if_pos c2] at H
    have c2b0 : decide (x4_1 < (l0.length : Int)) = true := decide_eq_true c2
    clear c2
    have H' := Aside0.mk H
    clear H
    go_wp2
    go_loopg [3, 5] k1 (fun kq v3 v5 w' => ∃ (x3_2 : List (S51)) (x5_2 : Int), v5 = .int .i64 x5_2 ∧ Aside0 (r13_Edges.l1 kq l0 x3_2 x4_1 x5_2 = some r) ∧ Aside0 (kq ≤ k1) ∧ Aside0 (Kd.R k51 51 w' w.heap.size (fun _ => True) v3 x3_2) ∧ Aside0 (Below w.heap.size w w'))
    case atStart => exact ⟨(x3_1), (wrap64 (x4_1 + 1)), (by first | rfl | (simp; done) | (simp [*]; done) | (simp [wrap64]; done) | (congr 1; rw [Bool.eq_iff_iff]; simp; done)), H', ⟨Nat.le_refl _⟩, ⟨by (with_reducible repeat (first | apply Kd.R_alloc | apply Kd.R_drewN | apply Kd.R_drew)); exact HO_3.out⟩, ⟨by repeat (first | (with_reducible first | exact HB.out | apply below_alloc | apply pw_below_drewN | apply below_drew1) | exact HB.out)⟩⟩
    case round =>
     clear H'
     (try clear c2); (try clear c2b0); (try clear p2)
     obtain ⟨x3_2, x5_2, rfl, HA, HK2, HO_3, HB⟩ := hrel
     cases gk with
     | zero => exact absurd HA.out (by simp [r13_Edges.l1])
     | succ k2 =>
      have H := HA.out
      clear HA
      simp only [r13_Edges.l1] at H
      by_cases c3 : x5_2 < (l0.length : Int)
      ·rw [if_pos c3] at H
       have c3b0 : decide (x5_2 < (l0.length : Int)) = true := decide_eq_true c3
       clear c3
       by_cases c4 : 0 ≤ x4_1
       ·rw [if_pos c4] at H
        have c4b0 : decide (0 ≤ x4_1) = true := decide_eq_true c4
        clear c4
        by_cases c5 : x4_1 < (l0.length : Int)
        ·rw [if_pos c5] at H
         have c5b0 : decide (x4_1 < (l0.length : Int)) = true := decide_eq_true c5
         clear c5
         by_cases c6 : 0 ≤ x5_2
         ·rw [if_pos c6] at H
          have c6b0 : decide (0 ≤ x5_2) = true := decide_eq_true c6
          clear c6
          replace H := Option.bind_eq_some_iff.mp H
          obtain ⟨t233, A70, H⟩ := H
          replace H : (if t233 ≥ 0 then (if x3_2.length < 5864062014805 then (r13_Edges.l1 k2 l0 (x3_2 ++ [(⟨x4_1, x5_2, t233⟩ : S51)]) x4_1 (wrap64 (x5_2 + 1))) else (none)) else (r13_Edges.l1 k2 l0 x3_2 x4_1 (wrap64 (x5_2 + 1)))) = some r := H
          have A7 := Aside0.mk A70
          clear A70
          by_cases c8 : t233 ≥ 0
          ·rw [if_pos c8] at H
           have c8b0 : decide (0 ≤ t233) = true := decide_eq_true c8
           clear c8
           by_cases c9 : x3_2.length < 5864062014805
           ·rw [if_pos c9] at H
            have LMc9 := Aside0.mk c9
            clear c9
            obtain ⟨y234, hy234⟩ : ∃ y_ : List (S51), y_ = (x3_2 ++ [(⟨x4_1, x5_2, t233⟩ : S51)]) := ⟨_, rfl⟩
            replace H : (r13_Edges.l1 k2 l0 y234 x4_1 (wrap64 (x5_2 + 1))) = some r := by first | (rw [hy234]; with_reducible exact H) | (have H2_ := (Option.bind_some _ _).symm.trans H; rw [hy234]; with_reducible exact H2_) | (have H2_ := (Option.bind_some _ _).symm.trans H; with_reducible exact H2_) | with_reducible exact H | (rw [hy234]; exact H) | exact H
            have Ny234 := Aside0.mk hy234
            clear hy234
            have H' := Aside0.mk H
            clear H
            try go_wp2
            have n0_ := Aside0.mk (Kd.R_drew HO_3.out)
            have n1_ := Aside0.mk (below_drew1 HB.out)
            clear HO_3
            clear HB
            have HO_3 := n0_
            have HB := n1_
            clear n0_ n1_
            have p231 : 0 ≤ (x4_1 : Int) := of_decide_eq_true (by assumption)
            have q231 : x4_1 < (l0.length : Int) := of_decide_eq_true (by assumption)
            obtain ⟨ad231, e231, hx231_0, hx231_1, hx231_2, hx231_3, hx231_4, hx231_5⟩ := at_T24 HR0.out x4_1 p231 q231
            have hw231_5 := hx231_5
            have hw231_4 := hx231_4
            have hw231_3 := hx231_3
            have hw231_2 := hx231_2
            have hw231_1 := hx231_1
            have hw231_0 := hx231_0
            cases e231
            replace hx231_0 := (HB.out.cell (World.block_lt_of_cell? w _ hx231_0)).trans hx231_0
            replace hx231_1 := (HB.out.cell (World.block_lt_of_cell? w _ hx231_1)).trans hx231_1
            replace hx231_2 := (HB.out.cell (World.block_lt_of_cell? w _ hx231_2)).trans hx231_2
            replace hx231_3 := (HB.out.cell (World.block_lt_of_cell? w _ hx231_3)).trans hx231_3
            replace hx231_4 := (HB.out.cell (World.block_lt_of_cell? w _ hx231_4)).trans hx231_4
            replace hx231_5 := (HB.out.cell (World.block_lt_of_cell? w _ hx231_5)).trans hx231_5
            replace p231 := eq_true p231
            replace q231 := eq_true q231
            have p232 : 0 ≤ (x5_2 : Int) := of_decide_eq_true (by assumption)
            have q232 : x5_2 < (l0.length : Int) := of_decide_eq_true (by assumption)
            obtain ⟨ad232, e232, hx232_0, hx232_1, hx232_2, hx232_3, hx232_4, hx232_5⟩ := at_T24 HR0.out x5_2 p232 q232
            have hw232_5 := hx232_5
            have hw232_4 := hx232_4
            have hw232_3 := hx232_3
            have hw232_2 := hx232_2
            have hw232_1 := hx232_1
            have hw232_0 := hx232_0
            obtain rfl : ad231 = ad232 := (by injection e232)
            replace hx232_0 := (HB.out.cell (World.block_lt_of_cell? w _ hx232_0)).trans hx232_0
            replace hx232_1 := (HB.out.cell (World.block_lt_of_cell? w _ hx232_1)).trans hx232_1
            replace hx232_2 := (HB.out.cell (World.block_lt_of_cell? w _ hx232_2)).trans hx232_2
            replace hx232_3 := (HB.out.cell (World.block_lt_of_cell? w _ hx232_3)).trans hx232_3
            replace hx232_4 := (HB.out.cell (World.block_lt_of_cell? w _ hx232_4)).trans hx232_4
            replace hx232_5 := (HB.out.cell (World.block_lt_of_cell? w _ hx232_5)).trans hx232_5
            replace p232 := eq_true p232
            replace q232 := eq_true q232
            refine start_ (n := 10) (S := fun w' => w'.cell? (ad231.add ((x4_1).toNat * 6)) = some (.int .i64 ((q24 l0 x4_1).f0)) ∧ w'.cell? ⟨(ad231.add ((x4_1).toNat * 6)).block, (ad231.add ((x4_1).toNat * 6)).off + 1, none⟩ = some (.int .i64 ((q24 l0 x4_1).f1)) ∧ w'.cell? ⟨(ad231.add ((x4_1).toNat * 6)).block, (ad231.add ((x4_1).toNat * 6)).off + 2, none⟩ = some (.int .i64 ((q24 l0 x4_1).f2)) ∧ w'.cell? ⟨(ad231.add ((x4_1).toNat * 6)).block, (ad231.add ((x4_1).toNat * 6)).off + 3, none⟩ = some (.int .i64 ((q24 l0 x4_1).f3)) ∧ w'.cell? ⟨(ad231.add ((x4_1).toNat * 6)).block, (ad231.add ((x4_1).toNat * 6)).off + 4, none⟩ = some (.int .i64 ((q24 l0 x4_1).f4)) ∧ w'.cell? ⟨(ad231.add ((x4_1).toNat * 6)).block, (ad231.add ((x4_1).toNat * 6)).off + 5, none⟩ = some (.string ((q24 l0 x4_1).f5)) ∧ w'.cell? (ad231.add ((x5_2).toNat * 6)) = some (.int .i64 ((q24 l0 x5_2).f0)) ∧ w'.cell? ⟨(ad231.add ((x5_2).toNat * 6)).block, (ad231.add ((x5_2).toNat * 6)).off + 1, none⟩ = some (.int .i64 ((q24 l0 x5_2).f1)) ∧ w'.cell? ⟨(ad231.add ((x5_2).toNat * 6)).block, (ad231.add ((x5_2).toNat * 6)).off + 2, none⟩ = some (.int .i64 ((q24 l0 x5_2).f2)) ∧ w'.cell? ⟨(ad231.add ((x5_2).toNat * 6)).block, (ad231.add ((x5_2).toNat * 6)).off + 3, none⟩ = some (.int .i64 ((q24 l0 x5_2).f3)) ∧ w'.cell? ⟨(ad231.add ((x5_2).toNat * 6)).block, (ad231.add ((x5_2).toNat * 6)).off + 4, none⟩ = some (.int .i64 ((q24 l0 x5_2).f4)) ∧ w'.cell? ⟨(ad231.add ((x5_2).toNat * 6)).block, (ad231.add ((x5_2).toNat * 6)).off + 5, none⟩ = some (.string ((q24 l0 x5_2).f5))) (ds := []) #[false, false, false, false, false, false, false, false, false, false] (by kernel_rfl) rfl (by kernel_rfl) ⟨((HB.out.cell (World.block_lt_of_cell? w _ hw231_0)).trans hw231_0), ((HB.out.cell (World.block_lt_of_cell? w _ hw231_1)).trans hw231_1), ((HB.out.cell (World.block_lt_of_cell? w _ hw231_2)).trans hw231_2), ((HB.out.cell (World.block_lt_of_cell? w _ hw231_3)).trans hw231_3), ((HB.out.cell (World.block_lt_of_cell? w _ hw231_4)).trans hw231_4), ((HB.out.cell (World.block_lt_of_cell? w _ hw231_5)).trans hw231_5), ((HB.out.cell (World.block_lt_of_cell? w _ hw232_0)).trans hw232_0), ((HB.out.cell (World.block_lt_of_cell? w _ hw232_1)).trans hw232_1), ((HB.out.cell (World.block_lt_of_cell? w _ hw232_2)).trans hw232_2), ((HB.out.cell (World.block_lt_of_cell? w _ hw232_3)).trans hw232_3), ((HB.out.cell (World.block_lt_of_cell? w _ hw232_4)).trans hw232_4), ((HB.out.cell (World.block_lt_of_cell? w _ hw232_5)).trans hw232_5)⟩ (fun hHeld => ?_); refine with_tabW r13_Edges.tab8 r13_Edges.bits8 (fun HT_ HW_ => ?_)
            generalize wr.drew = w10 at HO_3 HB hx231_0 hx231_1 hx231_2 hx231_3 hx231_4 hx231_5 hx232_0 hx232_1 hx232_2 hx232_3 hx232_4 hx232_5 hHeld ⊢
            refine pure_ (i := 0) (N := some 21) (v := ?_) (a' := ?_) #[true, false, false, false, false, false, false, false, false, false] rfl rfl (any_of HT_.out (by kernel_rfl)) (fun _ _ _ h => h) (Or.inl ⟨by rfl, ?_⟩) ?_ ?_
            rotate_left
            ·intro w'
             go_simp
             with_reducible rfl
            rotate_left
            ·simp only [Act.put, List.setIfInBounds_toArray, List.set_cons_zero, List.set_cons_succ, i64_w, i32_w]
             rfl
            refine pure_ (i := 1) (N := some 22) (v := ?_) (a' := ?_) #[true, true, false, false, false, false, false, false, false, false] rfl rfl (any_of HT_.out (by kernel_rfl)) (fun _ _ _ h => h) (Or.inl ⟨by rfl, ?_⟩) ?_ ?_
            rotate_left
            ·intro w'
             go_simp
             with_reducible rfl
            rotate_left
            ·simp only [Act.put, List.setIfInBounds_toArray, List.set_cons_zero, List.set_cons_succ, i64_w, i32_w]
             rfl
            refine pure_ (i := 2) (N := some 23) (v := ?_) (a' := ?_) #[true, true, true, false, false, false, false, false, false, false] rfl rfl (any_of HT_.out (by kernel_rfl)) (fun _ _ _ h => h) (Or.inl ⟨by rfl, ?_⟩) ?_ ?_
            rotate_left
            ·intro w'
             go_simp
             with_reducible rfl
            rotate_left
            ·simp only [Act.put, List.setIfInBounds_toArray, List.set_cons_zero, List.set_cons_succ, i64_w, i32_w]
             rfl
            refine pure_ (i := 4) (N := some 25) (v := ?_) (a' := ?_) #[true, true, true, false, true, false, false, false, false, false] rfl rfl (any_of HT_.out (by kernel_rfl)) (fun _ _ _ h => h) (Or.inl ⟨by rfl, ?_⟩) ?_ ?_
            rotate_left
            ·intro w'
             go_simp
             with_reducible rfl
            rotate_left
            ·simp only [Act.put, List.setIfInBounds_toArray, List.set_cons_zero, List.set_cons_succ, i64_w, i32_w]
             rfl
            refine pure_ (i := 5) (N := some 26) (v := ?_) (a' := ?_) #[true, true, true, false, true, true, false, false, false, false] rfl rfl (any_of HT_.out (by kernel_rfl)) (fun _ _ _ h => h) (Or.inl ⟨by rfl, ?_⟩) ?_ ?_
            rotate_left
            ·intro w'
             go_simp
             with_reducible rfl
            rotate_left
            ·simp only [Act.put, List.setIfInBounds_toArray, List.set_cons_zero, List.set_cons_succ, i64_w, i32_w]
             rfl
            refine pure_ (i := 6) (N := some 27) (v := ?_) (a' := ?_) #[true, true, true, false, true, true, true, false, false, false] rfl rfl (any_of HT_.out (by kernel_rfl)) (fun _ _ _ h => h) (Or.inl ⟨by rfl, ?_⟩) ?_ ?_
            rotate_left
            ·intro w'
             go_simp
             with_reducible rfl
            rotate_left
            ·simp only [Act.put, List.setIfInBounds_toArray, List.set_cons_zero, List.set_cons_succ, i64_w, i32_w]
             rfl
            refine take_ (i := 3) (N := some 24) (v := ?_) (a' := ?_) #[true, true, true, true, true, true, true, false, false, false] rfl rfl (take_ofW HT_.out HW_.out (by kernel_rfl)) (fun _ _ _ h => h) (Or.inl ⟨by rfl, ?_⟩) hHeld ?_ ?_
            rotate_left
            ·rintro w' ⟨s0, s1, s2, s3, s4, s5, s6, s7, s8, s9, s10, s11⟩
             go_simp
             with_reducible rfl
            rotate_left
            ·simp only [Act.put, List.setIfInBounds_toArray, List.set_cons_zero, List.set_cons_succ, i64_w, i32_w]
             rfl
            refine take_ (i := 7) (N := some 28) (v := ?_) (a' := ?_) #[true, true, true, true, true, true, true, true, false, false] rfl rfl (take_ofW HT_.out HW_.out (by kernel_rfl)) (fun _ _ _ h => h) (Or.inl ⟨by rfl, ?_⟩) hHeld ?_ ?_
            rotate_left
            ·rintro w' ⟨s0, s1, s2, s3, s4, s5, s6, s7, s8, s9, s10, s11⟩
             go_simp
             with_reducible rfl
            rotate_left
            ·simp only [Act.put, List.setIfInBounds_toArray, List.set_cons_zero, List.set_cons_succ, i64_w, i32_w]
             rfl
            refine one_ (i := 8) (N := some 29) #[true, true, true, true, true, true, true, true, true, false] rfl rfl (one_of HT_.out (by kernel_rfl)) (by decide) (fun K hK => ?_)
            refine goes_ Try.func58 (by kernel_rfl) rfl #[.agg #[.int .i64 ((q24 l0 x4_1).f0), .int .i64 ((q24 l0 x4_1).f1), .int .i64 ((q24 l0 x4_1).f2), .int .i64 ((q24 l0 x4_1).f3), .int .i64 ((q24 l0 x4_1).f4), .string ((q24 l0 x4_1).f5)], .agg #[.int .i64 ((q24 l0 x5_2).f0), .int .i64 ((q24 l0 x5_2).f1), .int .i64 ((q24 l0 x5_2).f2), .int .i64 ((q24 l0 x5_2).f3), .int .i64 ((q24 l0 x5_2).f4), .string ((q24 l0 x5_2).f5)]] (by rfl) rfl rfl (by (try simp only [List.map_toArray, List.map_cons, List.map_nil]); first | done | rfl | (simp only [List.length_drop, List.length_take]; rfl)) ?_
            with_reducible refine (r13_dist.calls k2 ((q24 l0 x4_1).f0) ((q24 l0 x4_1).f1) ((q24 l0 x4_1).f2) ((q24 l0 x4_1).f3) ((q24 l0 x4_1).f4) ((q24 l0 x4_1).f5) ((q24 l0 x5_2).f0) ((q24 l0 x5_2).f1) ((q24 l0 x5_2).f2) ((q24 l0 x5_2).f3) ((q24 l0 x5_2).f4) ((q24 l0 x5_2).f5) t233 _ A7.out).mono ?_
            rintro e w11 ⟨rfl, hb⟩
            refine ⟨_, rfl, ?_⟩
            have n0_ := Aside0.mk (Kd.R_below (by (with_reducible repeat (first | apply Kd.R_alloc | apply Kd.R_drewN | apply Kd.R_drew)); exact HO_3.out) hb)
            have n1_ := Aside0.mk (below_step (by repeat (first | (with_reducible first | exact HB.out | apply below_alloc | apply pw_below_drewN | apply below_drew1) | exact HB.out)) hb)
            clear HO_3
            clear HB
            have HO_3 := n0_
            have HB := n1_
            clear n0_ n1_
            (try clear hb)
            (try clear hb2)
            (try clear hk)
            (try clear hi)
            refine hK.out _ _ ⟨((HB.out.cell (World.block_lt_of_cell? w _ hw231_0)).trans hw231_0), ((HB.out.cell (World.block_lt_of_cell? w _ hw231_1)).trans hw231_1), ((HB.out.cell (World.block_lt_of_cell? w _ hw231_2)).trans hw231_2), ((HB.out.cell (World.block_lt_of_cell? w _ hw231_3)).trans hw231_3), ((HB.out.cell (World.block_lt_of_cell? w _ hw231_4)).trans hw231_4), ((HB.out.cell (World.block_lt_of_cell? w _ hw231_5)).trans hw231_5), ((HB.out.cell (World.block_lt_of_cell? w _ hw232_0)).trans hw232_0), ((HB.out.cell (World.block_lt_of_cell? w _ hw232_1)).trans hw232_1), ((HB.out.cell (World.block_lt_of_cell? w _ hw232_2)).trans hw232_2), ((HB.out.cell (World.block_lt_of_cell? w _ hw232_3)).trans hw232_3), ((HB.out.cell (World.block_lt_of_cell? w _ hw232_4)).trans hw232_4), ((HB.out.cell (World.block_lt_of_cell? w _ hw232_5)).trans hw232_5)⟩ (fun hHeld => ?_)
            clear hK K
            refine norm_ (a' := ?_) ?_ ?_
            rotate_left
            ·show Act.put _ (some 29) _ = _
             simp only [Act.put, List.setIfInBounds_toArray, List.set_cons_zero, List.set_cons_succ, i64_w, i32_w]
             rfl
            refine pure_ (i := 9) (N := some 6) (v := ?_) (a' := ?_) #[true, true, true, true, true, true, true, true, true, true] rfl rfl (any_of HT_.out (by kernel_rfl)) (fun _ _ _ h => h) (Or.inl ⟨by rfl, ?_⟩) ?_ ?_
            rotate_left
            ·intro w'
             go_simp
             with_reducible rfl
            rotate_left
            ·simp only [Act.put, List.setIfInBounds_toArray, List.set_cons_zero, List.set_cons_succ, i64_w, i32_w]
             rfl
            refine done_ (done_of HT_.out (by kernel_rfl)) ?_
            try go_wp2_with (first | ((with_reducible refine gate_builtin (b := .append) (xs := #[.tmp 32, .tmp 37]) rfl ?_); at_builtin; refine Kd.R_append k51 (w0 := w) w.heap.size rfl (.tmp 32) (.tmp 37) 31 51 (.agg #[(.int .i64 0), (.int .i64 0), (.int .i64 0)]) 24 rfl Try.underlying31 info51 rfl (by decide) (by omega) u3 x3_2 (⟨x4_1, x5_2, t233⟩ : S51) [.int .i64 x4_1, .int .i64 x5_2, .int .i64 t233] (fun _ => True) (fun _ => False) rfl rfl ?aP (fun _ hk => hk.elim) ?aF ?aO ?aB ?aS ?aL ?_; (case aP => exact k51_mkM _ _ _ (⟨x4_1, x5_2, t233⟩ : S51)); (case aB => exact (by repeat (first | (with_reducible first | exact HB.out | apply below_alloc | apply pw_below_drewN | apply below_drew1) | exact HB.out))); (case aF => exact (fun _ _ => trivial)); (case aO => exact (by (with_reducible repeat (first | apply Kd.R_alloc | apply Kd.R_drewN | apply Kd.R_drew)); exact HO_3.out)); (case aS => exact (below_size (by repeat (first | (with_reducible first | exact HB.out | apply below_alloc | apply pw_below_drewN | apply below_drew1) | exact HB.out)))); (case aL => have := LMc9.out; omega); intro v235 w12 ho hb hg hat; rw [← Ny234.out] at ho; have n0_ := Aside0.mk (hb); have n1_ := Aside0.mk (ho); clear HB; clear HO_3; have HB := n0_; have HO236 := n1_; clear n0_ n1_; clear ho hb hg hat))
            go_roundg k2
            case measure => have := HK1.out; have := HK2.out; omega
            case rel => exact ⟨(y234), (wrap64 (x5_2 + 1)), (by first | rfl | (simp; done) | (simp [*]; done) | (simp [wrap64]; done) | (congr 1; rw [Bool.eq_iff_iff]; simp; done)), H', ⟨by have := HK1.out; have := HK2.out; omega⟩, ⟨by (with_reducible repeat (first | apply Kd.R_alloc | apply Kd.R_drewN | apply Kd.R_drew)); exact HO236.out⟩, ⟨by repeat (first | (with_reducible first | exact HB.out | apply below_alloc | apply pw_below_drewN | apply below_drew1) | exact HB.out)⟩⟩
           ·rw [if_neg c9] at H
            exact absurd H (by simp)
          ·rw [if_neg c8] at H
           have c8b0 : decide (0 ≤ t233) = false := decide_eq_false c8
           clear c8
           have H' := Aside0.mk H
           clear H
           try go_wp2
           have n0_ := Aside0.mk (Kd.R_drew HO_3.out)
           have n1_ := Aside0.mk (below_drew1 HB.out)
           clear HO_3
           clear HB
           have HO_3 := n0_
           have HB := n1_
           clear n0_ n1_
           have p231 : 0 ≤ (x4_1 : Int) := of_decide_eq_true (by assumption)
           have q231 : x4_1 < (l0.length : Int) := of_decide_eq_true (by assumption)
           obtain ⟨ad231, e231, hx231_0, hx231_1, hx231_2, hx231_3, hx231_4, hx231_5⟩ := at_T24 HR0.out x4_1 p231 q231
           have hw231_5 := hx231_5
           have hw231_4 := hx231_4
           have hw231_3 := hx231_3
           have hw231_2 := hx231_2
           have hw231_1 := hx231_1
           have hw231_0 := hx231_0
           cases e231
           replace hx231_0 := (HB.out.cell (World.block_lt_of_cell? w _ hx231_0)).trans hx231_0
           replace hx231_1 := (HB.out.cell (World.block_lt_of_cell? w _ hx231_1)).trans hx231_1
           replace hx231_2 := (HB.out.cell (World.block_lt_of_cell? w _ hx231_2)).trans hx231_2
           replace hx231_3 := (HB.out.cell (World.block_lt_of_cell? w _ hx231_3)).trans hx231_3
           replace hx231_4 := (HB.out.cell (World.block_lt_of_cell? w _ hx231_4)).trans hx231_4
           replace hx231_5 := (HB.out.cell (World.block_lt_of_cell? w _ hx231_5)).trans hx231_5
           replace p231 := eq_true p231
           replace q231 := eq_true q231
           have p232 : 0 ≤ (x5_2 : Int) := of_decide_eq_true (by assumption)
           have q232 : x5_2 < (l0.length : Int) := of_decide_eq_true (by assumption)
           obtain ⟨ad232, e232, hx232_0, hx232_1, hx232_2, hx232_3, hx232_4, hx232_5⟩ := at_T24 HR0.out x5_2 p232 q232
           have hw232_5 := hx232_5
           have hw232_4 := hx232_4
           have hw232_3 := hx232_3
           have hw232_2 := hx232_2
           have hw232_1 := hx232_1
           have hw232_0 := hx232_0
           obtain rfl : ad231 = ad232 := (by injection e232)
           replace hx232_0 := (HB.out.cell (World.block_lt_of_cell? w _ hx232_0)).trans hx232_0
           replace hx232_1 := (HB.out.cell (World.block_lt_of_cell? w _ hx232_1)).trans hx232_1
           replace hx232_2 := (HB.out.cell (World.block_lt_of_cell? w _ hx232_2)).trans hx232_2
           replace hx232_3 := (HB.out.cell (World.block_lt_of_cell? w _ hx232_3)).trans hx232_3
           replace hx232_4 := (HB.out.cell (World.block_lt_of_cell? w _ hx232_4)).trans hx232_4
           replace hx232_5 := (HB.out.cell (World.block_lt_of_cell? w _ hx232_5)).trans hx232_5
           replace p232 := eq_true p232
           replace q232 := eq_true q232
           refine start_ (n := 10) (S := fun w' => w'.cell? (ad231.add ((x4_1).toNat * 6)) = some (.int .i64 ((q24 l0 x4_1).f0)) ∧ w'.cell? ⟨(ad231.add ((x4_1).toNat * 6)).block, (ad231.add ((x4_1).toNat * 6)).off + 1, none⟩ = some (.int .i64 ((q24 l0 x4_1).f1)) ∧ w'.cell? ⟨(ad231.add ((x4_1).toNat * 6)).block, (ad231.add ((x4_1).toNat * 6)).off + 2, none⟩ = some (.int .i64 ((q24 l0 x4_1).f2)) ∧ w'.cell? ⟨(ad231.add ((x4_1).toNat * 6)).block, (ad231.add ((x4_1).toNat * 6)).off + 3, none⟩ = some (.int .i64 ((q24 l0 x4_1).f3)) ∧ w'.cell? ⟨(ad231.add ((x4_1).toNat * 6)).block, (ad231.add ((x4_1).toNat * 6)).off + 4, none⟩ = some (.int .i64 ((q24 l0 x4_1).f4)) ∧ w'.cell? ⟨(ad231.add ((x4_1).toNat * 6)).block, (ad231.add ((x4_1).toNat * 6)).off + 5, none⟩ = some (.string ((q24 l0 x4_1).f5)) ∧ w'.cell? (ad231.add ((x5_2).toNat * 6)) = some (.int .i64 ((q24 l0 x5_2).f0)) ∧ w'.cell? ⟨(ad231.add ((x5_2).toNat * 6)).block, (ad231.add ((x5_2).toNat * 6)).off + 1, none⟩ = some (.int .i64 ((q24 l0 x5_2).f1)) ∧ w'.cell? ⟨(ad231.add ((x5_2).toNat * 6)).block, (ad231.add ((x5_2).toNat * 6)).off + 2, none⟩ = some (.int .i64 ((q24 l0 x5_2).f2)) ∧ w'.cell? ⟨(ad231.add ((x5_2).toNat * 6)).block, (ad231.add ((x5_2).toNat * 6)).off + 3, none⟩ = some (.int .i64 ((q24 l0 x5_2).f3)) ∧ w'.cell? ⟨(ad231.add ((x5_2).toNat * 6)).block, (ad231.add ((x5_2).toNat * 6)).off + 4, none⟩ = some (.int .i64 ((q24 l0 x5_2).f4)) ∧ w'.cell? ⟨(ad231.add ((x5_2).toNat * 6)).block, (ad231.add ((x5_2).toNat * 6)).off + 5, none⟩ = some (.string ((q24 l0 x5_2).f5))) (ds := []) #[false, false, false, false, false, false, false, false, false, false] (by kernel_rfl) rfl (by kernel_rfl) ⟨((HB.out.cell (World.block_lt_of_cell? w _ hw231_0)).trans hw231_0), ((HB.out.cell (World.block_lt_of_cell? w _ hw231_1)).trans hw231_1), ((HB.out.cell (World.block_lt_of_cell? w _ hw231_2)).trans hw231_2), ((HB.out.cell (World.block_lt_of_cell? w _ hw231_3)).trans hw231_3), ((HB.out.cell (World.block_lt_of_cell? w _ hw231_4)).trans hw231_4), ((HB.out.cell (World.block_lt_of_cell? w _ hw231_5)).trans hw231_5), ((HB.out.cell (World.block_lt_of_cell? w _ hw232_0)).trans hw232_0), ((HB.out.cell (World.block_lt_of_cell? w _ hw232_1)).trans hw232_1), ((HB.out.cell (World.block_lt_of_cell? w _ hw232_2)).trans hw232_2), ((HB.out.cell (World.block_lt_of_cell? w _ hw232_3)).trans hw232_3), ((HB.out.cell (World.block_lt_of_cell? w _ hw232_4)).trans hw232_4), ((HB.out.cell (World.block_lt_of_cell? w _ hw232_5)).trans hw232_5)⟩ (fun hHeld => ?_); refine with_tabW r13_Edges.tab8 r13_Edges.bits8 (fun HT_ HW_ => ?_)
           generalize wr.drew = w13 at HO_3 HB hx231_0 hx231_1 hx231_2 hx231_3 hx231_4 hx231_5 hx232_0 hx232_1 hx232_2 hx232_3 hx232_4 hx232_5 hHeld ⊢
           refine pure_ (i := 0) (N := some 21) (v := ?_) (a' := ?_) #[true, false, false, false, false, false, false, false, false, false] rfl rfl (any_of HT_.out (by kernel_rfl)) (fun _ _ _ h => h) (Or.inl ⟨by rfl, ?_⟩) ?_ ?_
           rotate_left
           ·intro w'
            go_simp
            with_reducible rfl
           rotate_left
           ·simp only [Act.put, List.setIfInBounds_toArray, List.set_cons_zero, List.set_cons_succ, i64_w, i32_w]
            rfl
           refine pure_ (i := 1) (N := some 22) (v := ?_) (a' := ?_) #[true, true, false, false, false, false, false, false, false, false] rfl rfl (any_of HT_.out (by kernel_rfl)) (fun _ _ _ h => h) (Or.inl ⟨by rfl, ?_⟩) ?_ ?_
           rotate_left
           ·intro w'
            go_simp
            with_reducible rfl
           rotate_left
           ·simp only [Act.put, List.setIfInBounds_toArray, List.set_cons_zero, List.set_cons_succ, i64_w, i32_w]
            rfl
           refine pure_ (i := 2) (N := some 23) (v := ?_) (a' := ?_) #[true, true, true, false, false, false, false, false, false, false] rfl rfl (any_of HT_.out (by kernel_rfl)) (fun _ _ _ h => h) (Or.inl ⟨by rfl, ?_⟩) ?_ ?_
           rotate_left
           ·intro w'
            go_simp
            with_reducible rfl
           rotate_left
           ·simp only [Act.put, List.setIfInBounds_toArray, List.set_cons_zero, List.set_cons_succ, i64_w, i32_w]
            rfl
           refine pure_ (i := 4) (N := some 25) (v := ?_) (a' := ?_) #[true, true, true, false, true, false, false, false, false, false] rfl rfl (any_of HT_.out (by kernel_rfl)) (fun _ _ _ h => h) (Or.inl ⟨by rfl, ?_⟩) ?_ ?_
           rotate_left
           ·intro w'
            go_simp
            with_reducible rfl
           rotate_left
           ·simp only [Act.put, List.setIfInBounds_toArray, List.set_cons_zero, List.set_cons_succ, i64_w, i32_w]
            rfl
           refine pure_ (i := 5) (N := some 26) (v := ?_) (a' := ?_) #[true, true, true, false, true, true, false, false, false, false] rfl rfl (any_of HT_.out (by kernel_rfl)) (fun _ _ _ h => h) (Or.inl ⟨by rfl, ?_⟩) ?_ ?_
           rotate_left
           ·intro w'
            go_simp
            with_reducible rfl
           rotate_left
           ·simp only [Act.put, List.setIfInBounds_toArray, List.set_cons_zero, List.set_cons_succ, i64_w, i32_w]
            rfl
           refine pure_ (i := 6) (N := some 27) (v := ?_) (a' := ?_) #[true, true, true, false, true, true, true, false, false, false] rfl rfl (any_of HT_.out (by kernel_rfl)) (fun _ _ _ h => h) (Or.inl ⟨by rfl, ?_⟩) ?_ ?_
           rotate_left
           ·intro w'
            go_simp
            with_reducible rfl
           rotate_left
           ·simp only [Act.put, List.setIfInBounds_toArray, List.set_cons_zero, List.set_cons_succ, i64_w, i32_w]
            rfl
           refine take_ (i := 3) (N := some 24) (v := ?_) (a' := ?_) #[true, true, true, true, true, true, true, false, false, false] rfl rfl (take_ofW HT_.out HW_.out (by kernel_rfl)) (fun _ _ _ h => h) (Or.inl ⟨by rfl, ?_⟩) hHeld ?_ ?_
           rotate_left
           ·rintro w' ⟨s0, s1, s2, s3, s4, s5, s6, s7, s8, s9, s10, s11⟩
            go_simp
            with_reducible rfl
           rotate_left
           ·simp only [Act.put, List.setIfInBounds_toArray, List.set_cons_zero, List.set_cons_succ, i64_w, i32_w]
            rfl
           refine take_ (i := 7) (N := some 28) (v := ?_) (a' := ?_) #[true, true, true, true, true, true, true, true, false, false] rfl rfl (take_ofW HT_.out HW_.out (by kernel_rfl)) (fun _ _ _ h => h) (Or.inl ⟨by rfl, ?_⟩) hHeld ?_ ?_
           rotate_left
           ·rintro w' ⟨s0, s1, s2, s3, s4, s5, s6, s7, s8, s9, s10, s11⟩
            go_simp
            with_reducible rfl
           rotate_left
           ·simp only [Act.put, List.setIfInBounds_toArray, List.set_cons_zero, List.set_cons_succ, i64_w, i32_w]
            rfl
           refine one_ (i := 8) (N := some 29) #[true, true, true, true, true, true, true, true, true, false] rfl rfl (one_of HT_.out (by kernel_rfl)) (by decide) (fun K hK => ?_)
           refine goes_ Try.func58 (by kernel_rfl) rfl #[.agg #[.int .i64 ((q24 l0 x4_1).f0), .int .i64 ((q24 l0 x4_1).f1), .int .i64 ((q24 l0 x4_1).f2), .int .i64 ((q24 l0 x4_1).f3), .int .i64 ((q24 l0 x4_1).f4), .string ((q24 l0 x4_1).f5)], .agg #[.int .i64 ((q24 l0 x5_2).f0), .int .i64 ((q24 l0 x5_2).f1), .int .i64 ((q24 l0 x5_2).f2), .int .i64 ((q24 l0 x5_2).f3), .int .i64 ((q24 l0 x5_2).f4), .string ((q24 l0 x5_2).f5)]] (by rfl) rfl rfl (by (try simp only [List.map_toArray, List.map_cons, List.map_nil]); first | done | rfl | (simp only [List.length_drop, List.length_take]; rfl)) ?_
           with_reducible refine (r13_dist.calls k2 ((q24 l0 x4_1).f0) ((q24 l0 x4_1).f1) ((q24 l0 x4_1).f2) ((q24 l0 x4_1).f3) ((q24 l0 x4_1).f4) ((q24 l0 x4_1).f5) ((q24 l0 x5_2).f0) ((q24 l0 x5_2).f1) ((q24 l0 x5_2).f2) ((q24 l0 x5_2).f3) ((q24 l0 x5_2).f4) ((q24 l0 x5_2).f5) t233 _ A7.out).mono ?_
           rintro e w14 ⟨rfl, hb⟩
           refine ⟨_, rfl, ?_⟩
           have n0_ := Aside0.mk (Kd.R_below (by (with_reducible repeat (first | apply Kd.R_alloc | apply Kd.R_drewN | apply Kd.R_drew)); exact HO_3.out) hb)
           have n1_ := Aside0.mk (below_step (by repeat (first | (with_reducible first | exact HB.out | apply below_alloc | apply pw_below_drewN | apply below_drew1) | exact HB.out)) hb)
           clear HO_3
           clear HB
           have HO_3 := n0_
           have HB := n1_
           clear n0_ n1_
           (try clear hb)
           (try clear hb2)
           (try clear hk)
           (try clear hi)
           refine hK.out _ _ ⟨((HB.out.cell (World.block_lt_of_cell? w _ hw231_0)).trans hw231_0), ((HB.out.cell (World.block_lt_of_cell? w _ hw231_1)).trans hw231_1), ((HB.out.cell (World.block_lt_of_cell? w _ hw231_2)).trans hw231_2), ((HB.out.cell (World.block_lt_of_cell? w _ hw231_3)).trans hw231_3), ((HB.out.cell (World.block_lt_of_cell? w _ hw231_4)).trans hw231_4), ((HB.out.cell (World.block_lt_of_cell? w _ hw231_5)).trans hw231_5), ((HB.out.cell (World.block_lt_of_cell? w _ hw232_0)).trans hw232_0), ((HB.out.cell (World.block_lt_of_cell? w _ hw232_1)).trans hw232_1), ((HB.out.cell (World.block_lt_of_cell? w _ hw232_2)).trans hw232_2), ((HB.out.cell (World.block_lt_of_cell? w _ hw232_3)).trans hw232_3), ((HB.out.cell (World.block_lt_of_cell? w _ hw232_4)).trans hw232_4), ((HB.out.cell (World.block_lt_of_cell? w _ hw232_5)).trans hw232_5)⟩ (fun hHeld => ?_)
           clear hK K
           refine norm_ (a' := ?_) ?_ ?_
           rotate_left
           ·show Act.put _ (some 29) _ = _
            simp only [Act.put, List.setIfInBounds_toArray, List.set_cons_zero, List.set_cons_succ, i64_w, i32_w]
            rfl
           refine pure_ (i := 9) (N := some 6) (v := ?_) (a' := ?_) #[true, true, true, true, true, true, true, true, true, true] rfl rfl (any_of HT_.out (by kernel_rfl)) (fun _ _ _ h => h) (Or.inl ⟨by rfl, ?_⟩) ?_ ?_
           rotate_left
           ·intro w'
            go_simp
            with_reducible rfl
           rotate_left
           ·simp only [Act.put, List.setIfInBounds_toArray, List.set_cons_zero, List.set_cons_succ, i64_w, i32_w]
            rfl
           refine done_ (done_of HT_.out (by kernel_rfl)) ?_
           try go_wp2
           go_roundg k2
           case measure => have := HK1.out; have := HK2.out; omega
           case rel => exact ⟨(x3_2), (wrap64 (x5_2 + 1)), (by first | rfl | (simp; done) | (simp [*]; done) | (simp [wrap64]; done) | (congr 1; rw [Bool.eq_iff_iff]; simp; done)), H', ⟨by have := HK1.out; have := HK2.out; omega⟩, ⟨by (with_reducible repeat (first | apply Kd.R_alloc | apply Kd.R_drewN | apply Kd.R_drew)); exact HO_3.out⟩, ⟨by repeat (first | (with_reducible first | exact HB.out | apply below_alloc | apply pw_below_drewN | apply below_drew1) | exact HB.out)⟩⟩
         ·rw [if_neg c6] at H
          exact absurd H (by simp)
        ·rw [if_neg c5] at H
         exact absurd H (by simp)
       ·rw [if_neg c4] at H
        exact absurd H (by simp)
      ·rw [if_neg c3] at H
       have c3b0 : decide (x5_2 < (l0.length : Int)) = false := decide_eq_false c3
       clear c3
       have H' := Aside0.mk H
       clear H
       go_wp2
       go_roundg k2
       case measure => have := HK1.out; have := HK2.out; omega
       case rel => exact ⟨(x3_2), (wrap64 (x4_1 + 1)), (by first | rfl | (simp; done) | (simp [*]; done) | (simp [wrap64]; done) | (congr 1; rw [Bool.eq_iff_iff]; simp; done)), H', ⟨by have := HK1.out; have := HK2.out; omega⟩, ⟨by (with_reducible repeat (first | apply Kd.R_alloc | apply Kd.R_drewN | apply Kd.R_drew)); exact HO_3.out⟩, ⟨by repeat (first | (with_reducible first | exact HB.out | apply below_alloc | apply pw_below_drewN | apply below_drew1) | exact HB.out)⟩⟩
   ·rw [if_neg c2] at H
    have c2b0 : decide (x4_1 < (l0.length : Int)) = false := decide_eq_false c2
    clear c2
    obtain rfl := Option.some.inj H
    go_wp2
    go_ret
    exact ⟨_, by first | rfl | (simp [errW_none, errW_some] <;> rfl) | (simp [*, errW_none, errW_some] <;> rfl), by (with_reducible repeat (first | apply Kd.R_alloc | apply Kd.R_drewN | apply Kd.R_drew)); exact HO_3.out, by repeat (first | (with_reducible first | exact HB.out | apply below_alloc | apply pw_below_drewN | apply below_drew1) | exact HB.out)⟩
def r0_EqNumbers.l0 : Nat → List Int → List Int → Int → Option (Bool)
 | 0, _, _, _ => none
 | k + 1, x0, x1, x5 => if x5 < (x0.length : Int) then (if 0 ≤ x5 then (if x5 < (x1.length : Int) then (if (rd x0 x5) = (rd x1 x5) then (r0_EqNumbers.l0 k x0 x1 (wrap64 (x5 + 1))) else (some false)) else (none)) else (none)) else (some true)
def r0_EqNumbers.f (k : Nat) (l0 : List Int) (l1 : List Int) : Option (Bool) := if (l0.length : Int) = (l1.length : Int) then (r0_EqNumbers.l0 k l0 l1 0) else (some false)
set_option maxHeartbeats 8000000 in
set_option maxRecDepth 100000 in
theorem r0_EqNumbers.calls (k : Nat) (A0 : Option Addr) (c0 : Nat) (l0 : List Int) (A1 : Option Addr) (c1 : Nat) (l1 : List Int) (r : Bool) (w : World) (hr0 : Kd.C (Kd.int .i64) w A0 l0.length l0) (hc0 : l0.length ≤ c0) (hr1 : Kd.C (Kd.int .i64) w A1 l1.length l1) (hc1 : l1.length ≤ c1) (h : r0_EqNumbers.f k l0 l1 = some r) :
  Calls Try.prog 24 #[.slice A0 l0.length c0, .slice A1 l1.length c1] w fun e w' => e = .returned (.bool r) ∧ Drawn0 w w' := by
 have HR0 := Aside0.mk hr0
 have HC0 := Aside0.mk hc0
 clear hr0 hc0
 have HR1 := Aside0.mk hr1
 have HC1 := Aside0.mk hc1
 clear hr1 hc1
 have H : (if (l0.length : Int) = (l1.length : Int) then (r0_EqNumbers.l0 k l0 l1 0) else (some false)) = some r := h
 clear h
 by_cases c3 : (l0.length : Int) = (l1.length : Int)
 ·rw [if_pos c3] at H
  have c3b0 : ((l0.length : Int) == (l1.length : Int)) = true := beq_iff_eq.mpr c3
  have c3b1 : ((l0.length : Int) != (l1.length : Int)) = false := bne_eq_false_iff_eq.mpr c3
  have c3b2 : (l0.length == l1.length) = true := by first | simpa using c3 | (simp at c3 ⊢; omega)
  clear c3
  have H' := Aside0.mk H
  clear H
  go_enter Try.func24, Try.ntmps24
  go_wp2
  repeat (go_quiet (fail); try go_wp2)
  go_loopg [5] k (fun kq v5 w' => ∃ (x5_1 : Int), v5 = .int .i64 x5_1 ∧ Aside0 (r0_EqNumbers.l0 kq l0 l1 x5_1 = some r) ∧ Aside0 (kq ≤ k) ∧ Drawn0 w w')
  case atStart => exact ⟨(0), (by first | rfl | (simp; done) | (simp [*]; done) | (simp [wrap64]; done) | (congr 1; rw [Bool.eq_iff_iff]; simp; done)), H', ⟨Nat.le_refl _⟩, by repeat (first | exact Drawn0.refl _ | apply Drawn0.step)⟩
  case round =>
   clear H'
   (try clear c1); (try clear c2); (try clear p2); (try clear c3); (try clear c3b0); (try clear c3b1); (try clear c3b2)
   obtain ⟨x5_1, rfl, HA, HK1, ⟨m1, rfl⟩⟩ := hrel
   cases gk with
   | zero => exact absurd HA.out (by simp [r0_EqNumbers.l0])
   | succ k1 =>
    have H := HA.out
    clear HA
    simp only [r0_EqNumbers.l0] at H
    by_cases c4 : x5_1 < (l0.length : Int)
    ·rw [if_pos c4] at H
     have c4b0 : decide (x5_1 < (l0.length : Int)) = true := decide_eq_true c4
     clear c4
     by_cases c5 : 0 ≤ x5_1
     ·rw [if_pos c5] at H
      have c5b0 : decide (0 ≤ x5_1) = true := decide_eq_true c5
      clear c5
      by_cases c6 : x5_1 < (l1.length : Int)
      ·rw [if_pos c6] at H
       have c6b0 : decide (x5_1 < (l1.length : Int)) = true := decide_eq_true c6
       clear c6
       by_cases c7 : (rd l0 x5_1) = (rd l1 x5_1)
       ·rw [if_pos c7] at H
        have c7b0 : ((rd l0 x5_1) == (rd l1 x5_1)) = true := beq_iff_eq.mpr c7
        have c7b1 : ((rd l0 x5_1) != (rd l1 x5_1)) = false := bne_eq_false_iff_eq.mpr c7
        clear c7
        have H' := Aside0.mk H
        clear H
        have p237 : 0 ≤ (x5_1 : Int) := of_decide_eq_true (by assumption)
        have q237 : x5_1 < (l0.length : Int) := of_decide_eq_true (by assumption)
        obtain ⟨ad237, e237, hx237_0⟩ := Kd.at_int HR0.out x5_1 p237 q237
        cases e237
        replace p237 := eq_true p237
        replace q237 := eq_true q237
        have p238 : 0 ≤ (x5_1 : Int) := of_decide_eq_true (by assumption)
        have q238 : x5_1 < (l1.length : Int) := of_decide_eq_true (by assumption)
        obtain ⟨ad238, e238, hx238_0⟩ := Kd.at_int HR1.out x5_1 p238 q238
        cases e238
        replace p238 := eq_true p238
        replace q238 := eq_true q238
        go_wp2
        repeat (go_quiet (fail); try go_wp2)
        go_roundg k1
        case measure => have := HK1.out; omega
        case rel => exact ⟨(wrap64 (x5_1 + 1)), (by first | rfl | (simp; done) | (simp [*]; done) | (simp [wrap64]; done) | (congr 1; rw [Bool.eq_iff_iff]; simp; done)), H', ⟨by have := HK1.out; omega⟩, by repeat (first | exact Drawn0.refl _ | apply Drawn0.step)⟩
       ·rw [if_neg c7] at H
        have c7b0 : ((rd l0 x5_1) == (rd l1 x5_1)) = false := beq_eq_false_iff_ne.mpr c7
        have c7b1 : ((rd l0 x5_1) != (rd l1 x5_1)) = true := bne_iff_ne.mpr c7
        obtain rfl := Option.some.inj H
        have p237 : 0 ≤ (x5_1 : Int) := of_decide_eq_true (by assumption)
        have q237 : x5_1 < (l0.length : Int) := of_decide_eq_true (by assumption)
        obtain ⟨ad237, e237, hx237_0⟩ := Kd.at_int HR0.out x5_1 p237 q237
        cases e237
        replace p237 := eq_true p237
        replace q237 := eq_true q237
        have p238 : 0 ≤ (x5_1 : Int) := of_decide_eq_true (by assumption)
        have q238 : x5_1 < (l1.length : Int) := of_decide_eq_true (by assumption)
        obtain ⟨ad238, e238, hx238_0⟩ := Kd.at_int HR1.out x5_1 p238 q238
        cases e238
        replace p238 := eq_true p238
        replace q238 := eq_true q238
        go_wp2
        repeat (go_quiet (fail); try go_wp2)
        go_ret
        exact ⟨by first | rfl | (simp; done) | (simp [*]; done) | (simp [wrap64]; done) | (congr 1; rw [Bool.eq_iff_iff]; simp; done), by repeat (first | exact Drawn0.refl _ | apply Drawn0.step)⟩
      ·rw [if_neg c6] at H
       exact absurd H (by simp)
     ·rw [if_neg c5] at H
      exact absurd H (by simp)
    ·rw [if_neg c4] at H
     have c4b0 : decide (x5_1 < (l0.length : Int)) = false := decide_eq_false c4
     clear c4
     obtain rfl := Option.some.inj H
     go_wp2
     repeat (go_quiet (fail); try go_wp2)
     go_ret
     exact ⟨by first | rfl | (simp; done) | (simp [*]; done) | (simp [wrap64]; done) | (congr 1; rw [Bool.eq_iff_iff]; simp; done), by repeat (first | exact Drawn0.refl _ | apply Drawn0.step)⟩
 ·rw [if_neg c3] at H
  have c3b0 : ((l0.length : Int) == (l1.length : Int)) = false := beq_eq_false_iff_ne.mpr c3
  have c3b1 : ((l0.length : Int) != (l1.length : Int)) = true := bne_iff_ne.mpr c3
  have c3b2 : (l0.length == l1.length) = false := by first | simpa using c3 | (simp at c3 ⊢; omega)
  obtain rfl := Option.some.inj H
  go_enter Try.func24, Try.ntmps24
  go_wp2
  repeat (go_quiet (fail); try go_wp2)
  go_ret
  exact ⟨by first | rfl | (simp; done) | (simp [*]; done) | (simp [wrap64]; done) | (congr 1; rw [Bool.eq_iff_iff]; simp; done), by repeat (first | exact Drawn0.refl _ | apply Drawn0.step)⟩
end Go.Proofs.Ytibfkkjkahpobaa.PDag
