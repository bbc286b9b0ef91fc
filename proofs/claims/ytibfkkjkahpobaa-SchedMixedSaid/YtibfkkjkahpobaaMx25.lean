import Derived.Test.YtibfkkjkahpobaaMx15
import Derived.Test.YtibfkkjkahpobaaMx21
import Derived.Test.YtibfkkjkahpobaaMx24
import Derived.Test.YtibfkkjkahpobaaMx23
set_option linter.unusedVariables false
set_option linter.unusedSimpArgs false
set_option maxHeartbeats 8000000
set_option maxRecDepth 100000
open Go.RowKit Go.Proofs.YtibfkkjkahpobaaW.PrintWords Go.Proofs.YtibfkkjkahpobaaW.PrintLast Go.Proofs.YtibfkkjkahpobaaW.PrintMore
namespace Go.Proofs.Ytibfkkjkahpobaa.PDag
section
attribute [local go_sem] max2_int min2_int max_two min_two max_three min_three max_four min_four
mutual
def r13_Edges.l0 : Nat → List (S24) → List (S51) → Int → Option ((List (S51)))
  | 0, _, _, _ => none
  | k + 1, x0, x3, x4 => if x4 < (x0.length : Int) then (r13_Edges.l1 k x0 x3 x4 (wrap64 (x4 + 1))) else (some x3)
def r13_Edges.l1 : Nat → List (S24) → List (S51) → Int → Int → Option ((List (S51)))
  | 0, _, _, _, _ => none
  | k + 1, x0, x3, x4, x5 => if x5 < (x0.length : Int) then (if 0 ≤ x4 then (if x4 < (x0.length : Int) then (if 0 ≤ x5 then ((r13_dist.f k ((q24 x0 x4).f0) ((q24 x0 x4).f1) ((q24 x0 x4).f2) ((q24 x0 x4).f3) ((q24 x0 x4).f4) ((q24 x0 x4).f5) ((q24 x0 x5).f0) ((q24 x0 x5).f1) ((q24 x0 x5).f2) ((q24 x0 x5).f3) ((q24 x0 x5).f4) ((q24 x0 x5).f5)).bind fun t233 => (if t233 ≥ 0 then (if x3.length < 5864062014805 then (r13_Edges.l1 k x0 (x3 ++ [(⟨x4, x5, t233⟩ : S51)]) x4 (wrap64 (x5 + 1))) else (none)) else (r13_Edges.l1 k x0 x3 x4 (wrap64 (x5 + 1))))) else (none)) else (none)) else (none)) else (r13_Edges.l0 k x0 x3 (wrap64 (x4 + 1)))
end
def r13_Edges.f (k : Nat) (l0 : List (S24)) : Option ((List (S51))) := r13_Edges.l0 k l0 ([] : List (S51)) 0
def r13_Edges.T8 : Bool × List (List Nat × List Nat) := (true, [([], []), ([], []), ([0, 1], [0, 1]), ([2], [2]), ([], []), ([], []), ([4, 5], [4, 5]), ([6], [6]), ([3, 7], [3, 7]), ([8, 8, 0, 1, 2, 3, 4, 5, 6, 7, 8], [8])])
def r13_Edges.B8 : List Nat := [0, 0, 3, 7, 0, 0, 48, 112, 255, 511]
theorem r13_Edges.tab8 : rtab .any (opsOf Try.f23 8) = r13_Edges.T8 := by kernel_rfl
theorem r13_Edges.bits8 : waitsOk r13_Edges.T8.2 r13_Edges.B8 = true := by kernel_rfl
theorem r13_Edges.calls (k : Nat) (A0 : Option Addr) (c0 : Nat) (l0 : List (S24)) (r : List (S51)) (w : World) (hr0 : Kd.C k24 w A0 l0.length l0) (hc0 : l0.length ≤ c0) (h : r13_Edges.f k l0 = some r) :
    Calls Try.prog 23 #[.slice A0 l0.length c0] w fun e w' => ∃ v0_ : Value, e = .returned (v0_) ∧ Kd.R k51 51 w' w.heap.size (fun _ => True) v0_ r ∧ Below w.heap.size w w' := by
 have hu24 := Try.underlying24
 have hu51 := Try.underlying51
 have HR0 := aM_ hr0
 have HC0 := aM_ hc0
 clear hr0 hc0
 have HB := aM_ (Below.refl w.heap.size w)
 have H : (r13_Edges.l0 k l0 ([] : List (S51)) 0) = some r := h
 clear h
 replace H := aM_ H
 go_enter Try.func23, Try.ntmps23
 go_wp2
 go_loopg [3, 4] k (fun kq v3 v4 w' => ∃ (x3_1 : List (S51)) (x4_1 : Int), v4 = .int .i64 x4_1 ∧ As_ (r13_Edges.l0 kq l0 x3_1 x4_1 = some r) ∧ As_ (kq ≤ k) ∧ As_ (Kd.R k51 51 w' w.heap.size (fun _ => True) v3 x3_1) ∧ As_ (Below w.heap.size w w'))
 case atStart => exact ⟨(([] : List (S51))), (0), eQ_, H, ⟨Nat.le_refl _⟩, ⟨by first | exact Kd.R_nil _ _ _ _ _ | exact Kd.N_nil _ _ _ _ _ | exact Kd.V_nil _ _ _ _ _ | exact Kd.Q_nil _ _ _ _ _ | exact Kd.S_nil _ _ _ _ _⟩, ⟨bl_ HB⟩⟩
 case round =>
  clear H
  obtain ⟨x3_1, x4_1, rfl, HA, HK1, HO_3, HB⟩ := hrel
  cases gk with
  | zero => exact absurd HA.out (by simp [r13_Edges.l0])
  | succ k1 =>
   have H := HA.out
   clear HA
   simp only [r13_Edges.l0] at H
   by_cases c2 : x4_1 < (l0.length : Int)
   ·rw [if_pos c2] at H
    have c2b0 := dE_ c2
    clear c2
    replace H := aM_ H
    go_wp2
    go_loopg [3, 5] k1 (fun kq v3 v5 w' => ∃ (x3_2 : List (S51)) (x5_2 : Int), v5 = .int .i64 x5_2 ∧ As_ (r13_Edges.l1 kq l0 x3_2 x4_1 x5_2 = some r) ∧ As_ (kq ≤ k1) ∧ As_ (Kd.R k51 51 w' w.heap.size (fun _ => True) v3 x3_2) ∧ As_ (Below w.heap.size w w'))
    case atStart => exact ⟨(x3_1), (wrap64 (x4_1 + 1)), eQ_, H, ⟨Nat.le_refl _⟩, ⟨rR_ HO_3⟩, ⟨bl_ HB⟩⟩
    case round =>
     clear H
     obtain ⟨x3_2, x5_2, rfl, HA, HK2, HO_3, HB⟩ := hrel
     cases gk with
     | zero => exact absurd HA.out (by simp [r13_Edges.l1])
     | succ k2 =>
      have H := HA.out
      clear HA
      simp only [r13_Edges.l1] at H
      by_cases c3 : x5_2 < (l0.length : Int)
      ·rw [if_pos c3] at H
       have c3b0 := dE_ c3
       clear c3
       by_cases c4 : 0 ≤ x4_1
       ·rw [if_pos c4] at H
        have c4b0 := dE_ c4
        clear c4
        by_cases c5 : x4_1 < (l0.length : Int)
        ·rw [if_pos c5] at H
         have c5b0 := dE_ c5
         clear c5
         by_cases c6 : 0 ≤ x5_2
         ·rw [if_pos c6] at H
          have c6b0 := dE_ c6
          clear c6
          replace H := oB_ H
          obtain ⟨t233, A7, H⟩ := H
          by_cases c8 : t233 ≥ 0
          ·rw [if_pos c8] at H
           have c8b0 := dE_ c8
           clear c8
           by_cases c9 : x3_2.length < 5864062014805
           ·rw [if_pos c9] at H
            have LMc9 := aM_ c9
            clear c9
            obtain ⟨y234, hy234⟩ : ∃ y_ : List (S51), y_ = (x3_2 ++ [(⟨x4_1, x5_2, t233⟩ : S51)]) := ⟨_, rfl⟩
            replace H : (r13_Edges.l1 k2 l0 y234 x4_1 (wrap64 (x5_2 + 1))) = some r := by first | (rw [hy234]; with_reducible exact H) | (have H2_ := (Option.bind_some _ _).symm.trans H; rw [hy234]; with_reducible exact H2_) | (have H2_ := (Option.bind_some _ _).symm.trans H; with_reducible exact H2_) | with_reducible exact H | (rw [hy234]; exact H) | exact H
            have Ny234 := aM_ hy234
            clear hy234
            replace H := aM_ H
            try go_wp2
            replace HO_3 := aM_ (Kd.R_drew HO_3.out)
            replace HB := aM_ (b1_ HB.out)
            have p231 : 0 ≤ (x4_1 : Int) := oD_
            have q231 : x4_1 < (l0.length : Int) := oD_
            obtain ⟨ad231, e231, hx231_0, hx231_1, hx231_2, hx231_3, hx231_4, hx231_5⟩ := at_T24 HR0.out x4_1 p231 q231
            have hw231_5 := hx231_5
            have hw231_4 := hx231_4
            have hw231_3 := hx231_3
            have hw231_2 := hx231_2
            have hw231_1 := hx231_1
            have hw231_0 := hx231_0
            cases e231
            replace hx231_0 := hC_ HB hx231_0
            replace hx231_1 := hC_ HB hx231_1
            replace hx231_2 := hC_ HB hx231_2
            replace hx231_3 := hC_ HB hx231_3
            replace hx231_4 := hC_ HB hx231_4
            replace hx231_5 := hC_ HB hx231_5
            replace p231 := eq_true p231
            replace q231 := eq_true q231
            have p232 : 0 ≤ (x5_2 : Int) := oD_
            have q232 : x5_2 < (l0.length : Int) := oD_
            obtain ⟨ad232, e232, hx232_0, hx232_1, hx232_2, hx232_3, hx232_4, hx232_5⟩ := at_T24 HR0.out x5_2 p232 q232
            have hw232_5 := hx232_5
            have hw232_4 := hx232_4
            have hw232_3 := hx232_3
            have hw232_2 := hx232_2
            have hw232_1 := hx232_1
            have hw232_0 := hx232_0
            obtain rfl : ad231 = ad232 := (by injection e232)
            replace hx232_0 := hC_ HB hx232_0
            replace hx232_1 := hC_ HB hx232_1
            replace hx232_2 := hC_ HB hx232_2
            replace hx232_3 := hC_ HB hx232_3
            replace hx232_4 := hC_ HB hx232_4
            replace hx232_5 := hC_ HB hx232_5
            replace p232 := eq_true p232
            replace q232 := eq_true q232
            refine start_ (n := 10) (S := fun w' => w'.cell? (ad231.add ((x4_1).toNat * 6)) = some (.int .i64 ((q24 l0 x4_1).f0)) ∧ w'.cell? ⟨(ad231.add ((x4_1).toNat * 6)).block, (ad231.add ((x4_1).toNat * 6)).off + 1, none⟩ = some (.int .i64 ((q24 l0 x4_1).f1)) ∧ w'.cell? ⟨(ad231.add ((x4_1).toNat * 6)).block, (ad231.add ((x4_1).toNat * 6)).off + 2, none⟩ = some (.int .i64 ((q24 l0 x4_1).f2)) ∧ w'.cell? ⟨(ad231.add ((x4_1).toNat * 6)).block, (ad231.add ((x4_1).toNat * 6)).off + 3, none⟩ = some (.int .i64 ((q24 l0 x4_1).f3)) ∧ w'.cell? ⟨(ad231.add ((x4_1).toNat * 6)).block, (ad231.add ((x4_1).toNat * 6)).off + 4, none⟩ = some (.int .i64 ((q24 l0 x4_1).f4)) ∧ w'.cell? ⟨(ad231.add ((x4_1).toNat * 6)).block, (ad231.add ((x4_1).toNat * 6)).off + 5, none⟩ = some (.string ((q24 l0 x4_1).f5)) ∧ w'.cell? (ad231.add ((x5_2).toNat * 6)) = some (.int .i64 ((q24 l0 x5_2).f0)) ∧ w'.cell? ⟨(ad231.add ((x5_2).toNat * 6)).block, (ad231.add ((x5_2).toNat * 6)).off + 1, none⟩ = some (.int .i64 ((q24 l0 x5_2).f1)) ∧ w'.cell? ⟨(ad231.add ((x5_2).toNat * 6)).block, (ad231.add ((x5_2).toNat * 6)).off + 2, none⟩ = some (.int .i64 ((q24 l0 x5_2).f2)) ∧ w'.cell? ⟨(ad231.add ((x5_2).toNat * 6)).block, (ad231.add ((x5_2).toNat * 6)).off + 3, none⟩ = some (.int .i64 ((q24 l0 x5_2).f3)) ∧ w'.cell? ⟨(ad231.add ((x5_2).toNat * 6)).block, (ad231.add ((x5_2).toNat * 6)).off + 4, none⟩ = some (.int .i64 ((q24 l0 x5_2).f4)) ∧ w'.cell? ⟨(ad231.add ((x5_2).toNat * 6)).block, (ad231.add ((x5_2).toNat * 6)).off + 5, none⟩ = some (.string ((q24 l0 x5_2).f5))) (ds := []) #[false, false, false, false, false, false, false, false, false, false] (by kernel_rfl) rfl (by kernel_rfl) ⟨(hC_ HB hw231_0), (hC_ HB hw231_1), (hC_ HB hw231_2), (hC_ HB hw231_3), (hC_ HB hw231_4), (hC_ HB hw231_5), (hC_ HB hw232_0), (hC_ HB hw232_1), (hC_ HB hw232_2), (hC_ HB hw232_3), (hC_ HB hw232_4), (hC_ HB hw232_5)⟩ (fun hHeld => ?_); refine with_tabW r13_Edges.tab8 r13_Edges.bits8 (fun HT_ HW_ => ?_)
            generalize wr.drew = w10 at HO_3 HB hx231_0 hx231_1 hx231_2 hx231_3 hx231_4 hx231_5 hx232_0 hx232_1 hx232_2 hx232_3 hx232_4 hx232_5 hHeld ⊢
            refine seq_ (k := 2) [(0, some 21, false), (1, some 22, false), (2, some 23, false), (4, some 25, false), (5, some 26, false), (6, some 27, false), (3, some 24, true), (7, some 28, true)] #[true, true, true, true, true, true, true, true, false, false] rfl (seq_of HT_.out HW_.out (by kernel_rfl)) (fun _ _ _ _ _ h => h) hHeld ?_
            repeat (first | (refine SeqOn.pure (v := ?_) (a' := ?_) rfl rfl (Or.inl ⟨by kernel_rfl, ?_⟩) ?_ ?_; rotate_left 2; (focus (intro w'; go_simp; with_reducible rfl)); (focus exact pU_)) | (refine SeqOn.take (v := ?_) (a' := ?_) rfl rfl (Or.inl ⟨by kernel_rfl, ?_⟩) ?_ ?_; rotate_left 2; (focus (rintro w' ⟨s0, s1, s2, s3, s4, s5, s6, s7, s8, s9, s10, s11⟩; go_simp; with_reducible rfl)); (focus exact pU_)))
            refine SeqOn.nil ?_
            refine one_ (i := 8) (N := some 29) #[true, true, true, true, true, true, true, true, true, false] rfl rfl (one_of HT_.out (by kernel_rfl)) (by decide) (fun K hK => ?_)
            refine gO_ Try.func58 #[.agg #[.int .i64 ((q24 l0 x4_1).f0), .int .i64 ((q24 l0 x4_1).f1), .int .i64 ((q24 l0 x4_1).f2), .int .i64 ((q24 l0 x4_1).f3), .int .i64 ((q24 l0 x4_1).f4), .string ((q24 l0 x4_1).f5)], .agg #[.int .i64 ((q24 l0 x5_2).f0), .int .i64 ((q24 l0 x5_2).f1), .int .i64 ((q24 l0 x5_2).f2), .int .i64 ((q24 l0 x5_2).f3), .int .i64 ((q24 l0 x5_2).f4), .string ((q24 l0 x5_2).f5)]] rfl ?_
            with_reducible refine (r13_dist.calls k2 ((q24 l0 x4_1).f0) ((q24 l0 x4_1).f1) ((q24 l0 x4_1).f2) ((q24 l0 x4_1).f3) ((q24 l0 x4_1).f4) ((q24 l0 x4_1).f5) ((q24 l0 x5_2).f0) ((q24 l0 x5_2).f1) ((q24 l0 x5_2).f2) ((q24 l0 x5_2).f3) ((q24 l0 x5_2).f4) ((q24 l0 x5_2).f5) t233 _ A7.out).mono ?_
            rintro e w11 ⟨rfl, hb⟩
            refine ⟨_, rfl, ?_⟩
            replace HO_3 := aM_ (Kd.R_below (rR_ HO_3) hb)
            replace HB := aM_ (bT_ (bl_ HB) hb)
            refine hK.out _ _ ⟨(hC_ HB hw231_0), (hC_ HB hw231_1), (hC_ HB hw231_2), (hC_ HB hw231_3), (hC_ HB hw231_4), (hC_ HB hw231_5), (hC_ HB hw232_0), (hC_ HB hw232_1), (hC_ HB hw232_2), (hC_ HB hw232_3), (hC_ HB hw232_4), (hC_ HB hw232_5)⟩ (fun hHeld => ?_)
            clear hK K
            refine norm_ (a' := ?_) ?_ ?_
            rotate_left
            ·show Act.put _ (some 29) _ = _
             simp only [Act.put, List.setIfInBounds_toArray, List.set_cons_zero, List.set_cons_succ, i64_w, i32_w]
             rfl
            refine pure_ (i := 9) (N := some 6) (v := ?_) (a' := ?_) #[true, true, true, true, true, true, true, true, true, true] rfl rfl (any_of HT_.out (by kernel_rfl)) (fun _ _ _ h => h) (Or.inl ⟨by rfl, ?_⟩) ?_ ?_
            rotate_left
            ·intro w'
             go_simp
             with_reducible rfl
            rotate_left
            ·simp only [Act.put, List.setIfInBounds_toArray, List.set_cons_zero, List.set_cons_succ, i64_w, i32_w]
             rfl
            refine done_ (done_of HT_.out (by kernel_rfl)) ?_
            try go_wp2_with (first | ((with_reducible refine gate_builtin (b := .append) (xs := #[.tmp 32, .tmp 37]) rfl ?_); at_builtin; refine Kd.R_append k51 (w0 := w) w.heap.size rfl (.tmp 32) (.tmp 37) 31 51 (.agg #[(.int .i64 0), (.int .i64 0), (.int .i64 0)]) 24 rfl Try.underlying31 info51 rfl (by decide) (by omega) u3 x3_2 (⟨x4_1, x5_2, t233⟩ : S51) [.int .i64 x4_1, .int .i64 x5_2, .int .i64 t233] (fun _ => True) (fun _ => False) rfl rfl ?aP (fun _ hk => hk.elim) ?aF ?aO ?aB ?aS ?aL ?_; (case aP => exact k51_mkM _ _ _ (⟨x4_1, x5_2, t233⟩ : S51)); (case aB => exact (bl_ HB)); (case aF => exact (fun _ _ => trivial)); (case aO => exact (rR_ HO_3)); (case aS => exact (bY_ (bl_ HB))); (case aL => have := LMc9.out; omega); intro v235 w12 ho hb hg hat; rw [← Ny234.out] at ho; replace HB := aM_ (hb); replace HO236 := aM_ (ho); clear HO_3; clear ho hb hg hat))
            go_roundg k2
            case measure => have := HK1.out; have := HK2.out; omega
            case rel => exact ⟨(y234), (wrap64 (x5_2 + 1)), eQ_, H, ⟨by have := HK1.out; have := HK2.out; omega⟩, ⟨rR_ HO236⟩, ⟨bl_ HB⟩⟩
           rw [if_neg c9] at H
           exact absurd H (by simp)
          rw [if_neg c8] at H
          have c8b0 := dF_ c8
          clear c8
          replace H := aM_ H
          try go_wp2
          replace HO_3 := aM_ (Kd.R_drew HO_3.out)
          replace HB := aM_ (b1_ HB.out)
          have p231 : 0 ≤ (x4_1 : Int) := oD_
          have q231 : x4_1 < (l0.length : Int) := oD_
          obtain ⟨ad231, e231, hx231_0, hx231_1, hx231_2, hx231_3, hx231_4, hx231_5⟩ := at_T24 HR0.out x4_1 p231 q231
          have hw231_5 := hx231_5
          have hw231_4 := hx231_4
          have hw231_3 := hx231_3
          have hw231_2 := hx231_2
          have hw231_1 := hx231_1
          have hw231_0 := hx231_0
          cases e231
          replace hx231_0 := hC_ HB hx231_0
          replace hx231_1 := hC_ HB hx231_1
          replace hx231_2 := hC_ HB hx231_2
          replace hx231_3 := hC_ HB hx231_3
          replace hx231_4 := hC_ HB hx231_4
          replace hx231_5 := hC_ HB hx231_5
          replace p231 := eq_true p231
          replace q231 := eq_true q231
          have p232 : 0 ≤ (x5_2 : Int) := oD_
          have q232 : x5_2 < (l0.length : Int) := oD_
          obtain ⟨ad232, e232, hx232_0, hx232_1, hx232_2, hx232_3, hx232_4, hx232_5⟩ := at_T24 HR0.out x5_2 p232 q232
          have hw232_5 := hx232_5
          have hw232_4 := hx232_4
          have hw232_3 := hx232_3
          have hw232_2 := hx232_2
          have hw232_1 := hx232_1
          have hw232_0 := hx232_0
          obtain rfl : ad231 = ad232 := (by injection e232)
          replace hx232_0 := hC_ HB hx232_0
          replace hx232_1 := hC_ HB hx232_1
          replace hx232_2 := hC_ HB hx232_2
          replace hx232_3 := hC_ HB hx232_3
          replace hx232_4 := hC_ HB hx232_4
          replace hx232_5 := hC_ HB hx232_5
          replace p232 := eq_true p232
          replace q232 := eq_true q232
          refine start_ (n := 10) (S := fun w' => w'.cell? (ad231.add ((x4_1).toNat * 6)) = some (.int .i64 ((q24 l0 x4_1).f0)) ∧ w'.cell? ⟨(ad231.add ((x4_1).toNat * 6)).block, (ad231.add ((x4_1).toNat * 6)).off + 1, none⟩ = some (.int .i64 ((q24 l0 x4_1).f1)) ∧ w'.cell? ⟨(ad231.add ((x4_1).toNat * 6)).block, (ad231.add ((x4_1).toNat * 6)).off + 2, none⟩ = some (.int .i64 ((q24 l0 x4_1).f2)) ∧ w'.cell? ⟨(ad231.add ((x4_1).toNat * 6)).block, (ad231.add ((x4_1).toNat * 6)).off + 3, none⟩ = some (.int .i64 ((q24 l0 x4_1).f3)) ∧ w'.cell? ⟨(ad231.add ((x4_1).toNat * 6)).block, (ad231.add ((x4_1).toNat * 6)).off + 4, none⟩ = some (.int .i64 ((q24 l0 x4_1).f4)) ∧ w'.cell? ⟨(ad231.add ((x4_1).toNat * 6)).block, (ad231.add ((x4_1).toNat * 6)).off + 5, none⟩ = some (.string ((q24 l0 x4_1).f5)) ∧ w'.cell? (ad231.add ((x5_2).toNat * 6)) = some (.int .i64 ((q24 l0 x5_2).f0)) ∧ w'.cell? ⟨(ad231.add ((x5_2).toNat * 6)).block, (ad231.add ((x5_2).toNat * 6)).off + 1, none⟩ = some (.int .i64 ((q24 l0 x5_2).f1)) ∧ w'.cell? ⟨(ad231.add ((x5_2).toNat * 6)).block, (ad231.add ((x5_2).toNat * 6)).off + 2, none⟩ = some (.int .i64 ((q24 l0 x5_2).f2)) ∧ w'.cell? ⟨(ad231.add ((x5_2).toNat * 6)).block, (ad231.add ((x5_2).toNat * 6)).off + 3, none⟩ = some (.int .i64 ((q24 l0 x5_2).f3)) ∧ w'.cell? ⟨(ad231.add ((x5_2).toNat * 6)).block, (ad231.add ((x5_2).toNat * 6)).off + 4, none⟩ = some (.int .i64 ((q24 l0 x5_2).f4)) ∧ w'.cell? ⟨(ad231.add ((x5_2).toNat * 6)).block, (ad231.add ((x5_2).toNat * 6)).off + 5, none⟩ = some (.string ((q24 l0 x5_2).f5))) (ds := []) #[false, false, false, false, false, false, false, false, false, false] (by kernel_rfl) rfl (by kernel_rfl) ⟨(hC_ HB hw231_0), (hC_ HB hw231_1), (hC_ HB hw231_2), (hC_ HB hw231_3), (hC_ HB hw231_4), (hC_ HB hw231_5), (hC_ HB hw232_0), (hC_ HB hw232_1), (hC_ HB hw232_2), (hC_ HB hw232_3), (hC_ HB hw232_4), (hC_ HB hw232_5)⟩ (fun hHeld => ?_); refine with_tabW r13_Edges.tab8 r13_Edges.bits8 (fun HT_ HW_ => ?_)
          generalize wr.drew = w13 at HO_3 HB hx231_0 hx231_1 hx231_2 hx231_3 hx231_4 hx231_5 hx232_0 hx232_1 hx232_2 hx232_3 hx232_4 hx232_5 hHeld ⊢
          refine seq_ (k := 2) [(0, some 21, false), (1, some 22, false), (2, some 23, false), (4, some 25, false), (5, some 26, false), (6, some 27, false), (3, some 24, true), (7, some 28, true)] #[true, true, true, true, true, true, true, true, false, false] rfl (seq_of HT_.out HW_.out (by kernel_rfl)) (fun _ _ _ _ _ h => h) hHeld ?_
          repeat (first | (refine SeqOn.pure (v := ?_) (a' := ?_) rfl rfl (Or.inl ⟨by kernel_rfl, ?_⟩) ?_ ?_; rotate_left 2; (focus (intro w'; go_simp; with_reducible rfl)); (focus exact pU_)) | (refine SeqOn.take (v := ?_) (a' := ?_) rfl rfl (Or.inl ⟨by kernel_rfl, ?_⟩) ?_ ?_; rotate_left 2; (focus (rintro w' ⟨s0, s1, s2, s3, s4, s5, s6, s7, s8, s9, s10, s11⟩; go_simp; with_reducible rfl)); (focus exact pU_)))
          refine SeqOn.nil ?_
          refine one_ (i := 8) (N := some 29) #[true, true, true, true, true, true, true, true, true, false] rfl rfl (one_of HT_.out (by kernel_rfl)) (by decide) (fun K hK => ?_)
          refine gO_ Try.func58 #[.agg #[.int .i64 ((q24 l0 x4_1).f0), .int .i64 ((q24 l0 x4_1).f1), .int .i64 ((q24 l0 x4_1).f2), .int .i64 ((q24 l0 x4_1).f3), .int .i64 ((q24 l0 x4_1).f4), .string ((q24 l0 x4_1).f5)], .agg #[.int .i64 ((q24 l0 x5_2).f0), .int .i64 ((q24 l0 x5_2).f1), .int .i64 ((q24 l0 x5_2).f2), .int .i64 ((q24 l0 x5_2).f3), .int .i64 ((q24 l0 x5_2).f4), .string ((q24 l0 x5_2).f5)]] rfl ?_
          with_reducible refine (r13_dist.calls k2 ((q24 l0 x4_1).f0) ((q24 l0 x4_1).f1) ((q24 l0 x4_1).f2) ((q24 l0 x4_1).f3) ((q24 l0 x4_1).f4) ((q24 l0 x4_1).f5) ((q24 l0 x5_2).f0) ((q24 l0 x5_2).f1) ((q24 l0 x5_2).f2) ((q24 l0 x5_2).f3) ((q24 l0 x5_2).f4) ((q24 l0 x5_2).f5) t233 _ A7.out).mono ?_
          rintro e w14 ⟨rfl, hb⟩
          refine ⟨_, rfl, ?_⟩
          replace HO_3 := aM_ (Kd.R_below (rR_ HO_3) hb)
          replace HB := aM_ (bT_ (bl_ HB) hb)
          refine hK.out _ _ ⟨(hC_ HB hw231_0), (hC_ HB hw231_1), (hC_ HB hw231_2), (hC_ HB hw231_3), (hC_ HB hw231_4), (hC_ HB hw231_5), (hC_ HB hw232_0), (hC_ HB hw232_1), (hC_ HB hw232_2), (hC_ HB hw232_3), (hC_ HB hw232_4), (hC_ HB hw232_5)⟩ (fun hHeld => ?_)
          clear hK K
          refine norm_ (a' := ?_) ?_ ?_
          rotate_left
          ·show Act.put _ (some 29) _ = _
           simp only [Act.put, List.setIfInBounds_toArray, List.set_cons_zero, List.set_cons_succ, i64_w, i32_w]
           rfl
          refine pure_ (i := 9) (N := some 6) (v := ?_) (a' := ?_) #[true, true, true, true, true, true, true, true, true, true] rfl rfl (any_of HT_.out (by kernel_rfl)) (fun _ _ _ h => h) (Or.inl ⟨by rfl, ?_⟩) ?_ ?_
          rotate_left
          ·intro w'
           go_simp
           with_reducible rfl
          rotate_left
          ·simp only [Act.put, List.setIfInBounds_toArray, List.set_cons_zero, List.set_cons_succ, i64_w, i32_w]
           rfl
          refine done_ (done_of HT_.out (by kernel_rfl)) ?_
          try go_wp2
          go_roundg k2
          case measure => have := HK1.out; have := HK2.out; omega
          case rel => exact ⟨(x3_2), (wrap64 (x5_2 + 1)), eQ_, H, ⟨by have := HK1.out; have := HK2.out; omega⟩, ⟨rR_ HO_3⟩, ⟨bl_ HB⟩⟩
         rw [if_neg c6] at H
         exact absurd H (by simp)
        rw [if_neg c5] at H
        exact absurd H (by simp)
       rw [if_neg c4] at H
       exact absurd H (by simp)
      rw [if_neg c3] at H
      have c3b0 := dF_ c3
      clear c3
      replace H := aM_ H
      go_wp2
      go_roundg k2
      case measure => have := HK1.out; have := HK2.out; omega
      case rel => exact ⟨(x3_2), (wrap64 (x4_1 + 1)), eQ_, H, ⟨by have := HK1.out; have := HK2.out; omega⟩, ⟨rR_ HO_3⟩, ⟨bl_ HB⟩⟩
   rw [if_neg c2] at H
   have c2b0 := dF_ c2
   clear c2
   obtain rfl := oI_ H
   go_wp2
   go_ret
   exact ⟨_, eR_, rR_ HO_3, bl_ HB⟩
def r0_EqNumbers.l0 : Nat → List Int → List Int → Int → Option (Bool)
  | 0, _, _, _ => none
  | k + 1, x0, x1, x5 => if x5 < (x0.length : Int) then (if 0 ≤ x5 then (if x5 < (x1.length : Int) then (if (rd x0 x5) = (rd x1 x5) then (r0_EqNumbers.l0 k x0 x1 (wrap64 (x5 + 1))) else (some false)) else (none)) else (none)) else (some true)
def r0_EqNumbers.f (k : Nat) (l0 : List Int) (l1 : List Int) : Option (Bool) := if (l0.length : Int) = (l1.length : Int) then (r0_EqNumbers.l0 k l0 l1 0) else (some false)
theorem r0_EqNumbers.calls (k : Nat) (A0 : Option Addr) (c0 : Nat) (l0 : List Int) (A1 : Option Addr) (c1 : Nat) (l1 : List Int) (r : Bool) (w : World) (hr0 : Kd.C (Kd.int .i64) w A0 l0.length l0) (hc0 : l0.length ≤ c0) (hr1 : Kd.C (Kd.int .i64) w A1 l1.length l1) (hc1 : l1.length ≤ c1) (h : r0_EqNumbers.f k l0 l1 = some r) :
    Calls Try.prog 24 #[.slice A0 l0.length c0, .slice A1 l1.length c1] w fun e w' => e = .returned (.bool r) ∧ Dr_ w w' := by
 have HR0 := aM_ hr0
 have HC0 := aM_ hc0
 clear hr0 hc0
 have HR1 := aM_ hr1
 have HC1 := aM_ hc1
 clear hr1 hc1
 have H : (if (l0.length : Int) = (l1.length : Int) then (r0_EqNumbers.l0 k l0 l1 0) else (some false)) = some r := h
 clear h
 by_cases c3 : (l0.length : Int) = (l1.length : Int)
 ·rw [if_pos c3] at H
  have c3b0 := bH_ c3
  have c3b1 := bF_ c3
  have c3b2 : (l0.length == l1.length) = true := by first | simpa using c3 | (simp at c3 ⊢; omega)
  clear c3
  replace H := aM_ H
  go_enter Try.func24, Try.ntmps24
  go_wp2
  repeat (go_quiet (fail); try go_wp2)
  go_loopg [5] k (fun kq v5 w' => ∃ (x5_1 : Int), v5 = .int .i64 x5_1 ∧ As_ (r0_EqNumbers.l0 kq l0 l1 x5_1 = some r) ∧ As_ (kq ≤ k) ∧ Dr_ w w')
  case atStart => exact ⟨(0), eQ_, H, ⟨Nat.le_refl _⟩, dR_⟩
  case round =>
   clear H
   obtain ⟨x5_1, rfl, HA, HK1, ⟨m1, rfl⟩⟩ := hrel
   cases gk with
   | zero => exact absurd HA.out (by simp [r0_EqNumbers.l0])
   | succ k1 =>
    have H := HA.out
    clear HA
    simp only [r0_EqNumbers.l0] at H
    by_cases c4 : x5_1 < (l0.length : Int)
    ·rw [if_pos c4] at H
     have c4b0 := dE_ c4
     clear c4
     by_cases c5 : 0 ≤ x5_1
     ·rw [if_pos c5] at H
      have c5b0 := dE_ c5
      clear c5
      by_cases c6 : x5_1 < (l1.length : Int)
      ·rw [if_pos c6] at H
       have c6b0 := dE_ c6
       clear c6
       by_cases c7 : (rd l0 x5_1) = (rd l1 x5_1)
       ·rw [if_pos c7] at H
        have c7b0 := bH_ c7
        have c7b1 := bF_ c7
        clear c7
        replace H := aM_ H
        have p237 : 0 ≤ (x5_1 : Int) := oD_
        have q237 : x5_1 < (l0.length : Int) := oD_
        obtain ⟨ad237, e237, hx237_0⟩ := Kd.at_int HR0.out x5_1 p237 q237
        cases e237
        replace p237 := eq_true p237
        replace q237 := eq_true q237
        have p238 : 0 ≤ (x5_1 : Int) := oD_
        have q238 : x5_1 < (l1.length : Int) := oD_
        obtain ⟨ad238, e238, hx238_0⟩ := Kd.at_int HR1.out x5_1 p238 q238
        cases e238
        replace p238 := eq_true p238
        replace q238 := eq_true q238
        go_wp2
        repeat (go_quiet (fail); try go_wp2)
        go_roundg k1
        case measure => have := HK1.out; omega
        case rel => exact ⟨(wrap64 (x5_1 + 1)), eQ_, H, ⟨by have := HK1.out; omega⟩, dR_⟩
       rw [if_neg c7] at H
       have c7b0 := bE_ c7
       have c7b1 := bG_ c7
       obtain rfl := oI_ H
       have p237 : 0 ≤ (x5_1 : Int) := oD_
       have q237 : x5_1 < (l0.length : Int) := oD_
       obtain ⟨ad237, e237, hx237_0⟩ := Kd.at_int HR0.out x5_1 p237 q237
       cases e237
       replace p237 := eq_true p237
       replace q237 := eq_true q237
       have p238 : 0 ≤ (x5_1 : Int) := oD_
       have q238 : x5_1 < (l1.length : Int) := oD_
       obtain ⟨ad238, e238, hx238_0⟩ := Kd.at_int HR1.out x5_1 p238 q238
       cases e238
       replace p238 := eq_true p238
       replace q238 := eq_true q238
       go_wp2
       repeat (go_quiet (fail); try go_wp2)
       go_ret
       exact ⟨eQ_, dR_⟩
      rw [if_neg c6] at H
      exact absurd H (by simp)
     rw [if_neg c5] at H
     exact absurd H (by simp)
    rw [if_neg c4] at H
    have c4b0 := dF_ c4
    clear c4
    obtain rfl := oI_ H
    go_wp2
    repeat (go_quiet (fail); try go_wp2)
    go_ret
    exact ⟨eQ_, dR_⟩
 rw [if_neg c3] at H
 have c3b0 := bE_ c3
 have c3b1 := bG_ c3
 have c3b2 : (l0.length == l1.length) = false := by first | simpa using c3 | (simp at c3 ⊢; omega)
 obtain rfl := oI_ H
 go_enter Try.func24, Try.ntmps24
 go_wp2
 repeat (go_quiet (fail); try go_wp2)
 go_ret
 exact ⟨eQ_, dR_⟩
mutual
def r13_Heights.l0 : Nat → List (S24) → List Int → List (S51) → Int → Option (List Int)
  | 0, _, _, _, _ => none
  | k + 1, x0, x3, x4, x5 => if x5 ≥ 0 then (if 0 ≤ x5 then (if x5 < (x0.length : Int) then ((r3_Latency.f k ((q24 x0 x5).f0)).bind fun t246 => (if x5 < (x3.length : Int) then (r13_Heights.l1 k x0 (x3.set (x5 : Int).toNat t246) x4 x5 0) else (none))) else (none)) else (none)) else (some x3)
def r13_Heights.l1 : Nat → List (S24) → List Int → List (S51) → Int → Int → Option (List Int)
  | 0, _, _, _, _, _ => none
  | k + 1, x0, x3, x4, x5, x6 => if x6 < (x4.length : Int) then (if 0 ≤ x6 then (if ((q51 x4 x6).f0) = x5 then (if 0 ≤ x5 then (if x5 < (x3.length : Int) then (if 0 ≤ ((q51 x4 x6).f1) then (if ((q51 x4 x6).f1) < (x3.length : Int) then (r13_Heights.l1 k x0 (x3.set (x5 : Int).toNat (mx (rd x3 x5) (wrap64 (((q51 x4 x6).f2) + (rd x3 ((q51 x4 x6).f1)))))) x4 x5 (wrap64 (x6 + 1))) else (none)) else (none)) else (none)) else (none)) else (r13_Heights.l1 k x0 x3 x4 x5 (wrap64 (x6 + 1)))) else (none)) else (r13_Heights.l0 k x0 x3 x4 (wrap64 (x5 - 1)))
end
def r13_Heights.f (k : Nat) (l0 : List (S24)) : Option (List Int) := if 0 ≤ (l0.length : Int) then (if ((l0.length : Int) : Int).toNat ≤ 35184372088832 then ((r13_Edges.f k l0).bind fun t242 => (r13_Heights.l0 k l0 (List.replicate ((l0.length : Int) : Int).toNat 0) t242 (wrap64 ((l0.length : Int) - 1)))) else (none)) else (none)
def r13_Heights.T11 : Bool × List (List Nat × List Nat) := (true, [([], []), ([], []), ([], []), ([], []), ([2, 3], [2, 3]), ([4], [4]), ([], []), ([], []), ([6, 7], [6, 7]), ([8], [8]), ([9], [9]), ([], []), ([], []), ([], []), ([12, 13], [12, 13]), ([14], [14]), ([15], [15]), ([11, 16], [11, 16]), ([17], [17]), ([10, 18], [10, 18]), ([5, 19], [5, 19]), ([0, 1, 0, 1, 2, 3, 4, 5, 6, 7, 8, 9, 10, 11, 12, 13, 14, 15, 16, 17, 18, 19, 20], [0, 1]), ([21, 20, 0, 1, 2, 3, 4, 5, 6, 7, 8, 9, 10, 11, 12, 13, 14, 15, 16, 17, 18, 19, 20], [20, 21])])
def r13_Heights.B11 : List Nat := [0, 0, 0, 0, 12, 28, 0, 0, 192, 448, 960, 0, 0, 0, 12288, 28672, 61440, 129024, 260096, 524224, 1048572, 2097151, 4194303]
theorem r13_Heights.tab11 : rtab .any (opsOf Try.f25 11) = r13_Heights.T11 := by kernel_rfl
theorem r13_Heights.bits11 : waitsOk r13_Heights.T11.2 r13_Heights.B11 = true := by kernel_rfl
theorem r13_Heights.calls (k : Nat) (A0 : Option Addr) (c0 : Nat) (l0 : List (S24)) (r : List Int) (w : World) (hr0 : Kd.C k24 w A0 l0.length l0) (hc0 : l0.length ≤ c0) (h : r13_Heights.f k l0 = some r) :
    Calls Try.prog 25 #[.slice A0 l0.length c0] w fun e w' => ∃ v0_ : Value, e = .returned (v0_) ∧ Kd.R (Kd.int .i64) 3 w' w.heap.size (fun _ => True) v0_ r ∧ Below w.heap.size w w' := by
 have HR0 := aM_ hr0
 have HC0 := aM_ hc0
 clear hr0 hc0
 have HB := aM_ (Below.refl w.heap.size w)
 have H : (if 0 ≤ (l0.length : Int) then (if ((l0.length : Int) : Int).toNat ≤ 35184372088832 then ((r13_Edges.f k l0).bind fun t242 => (r13_Heights.l0 k l0 (List.replicate ((l0.length : Int) : Int).toNat 0) t242 (wrap64 ((l0.length : Int) - 1)))) else (none)) else (none)) = some r := h
 clear h
 by_cases c2 : 0 ≤ (l0.length : Int)
 ·rw [if_pos c2] at H
  have c2b0 := eq_true c2
  have c2b1 := dE_ c2
  clear c2
  by_cases c3 : ((l0.length : Int) : Int).toNat ≤ 35184372088832
  ·rw [if_pos c3] at H
   have c3b0 := eq_true c3
   have c3b1 := dE_ c3
   clear c3
   obtain ⟨y239, hy239⟩ : ∃ y_ : List Int, y_ = (List.replicate ((l0.length : Int) : Int).toNat 0) := ⟨_, rfl⟩
   replace H : ((r13_Edges.f k l0).bind fun t242 => (r13_Heights.l0 k l0 y239 t242 (wrap64 ((l0.length : Int) - 1)))) = some r := by first | (rw [hy239]; with_reducible exact H) | (have H2_ := (Option.bind_some _ _).symm.trans H; rw [hy239]; with_reducible exact H2_) | (have H2_ := (Option.bind_some _ _).symm.trans H; with_reducible exact H2_) | with_reducible exact H | (rw [hy239]; exact H) | exact H
   have Ny239 := aM_ hy239
   clear hy239
   replace H := oB_ H
   obtain ⟨t242, A4, H⟩ := H
   replace H := aM_ H
   go_enter Try.func25, Try.ntmps25
   go_wp2_with (first | ((with_reducible refine gate_dst (N := 9) rfl ?_); refine Kd.R_make (Kd.int .i64) _ 3 rfl (N := 9) rfl 25 _ _ rfl (l0.length : Int) rfl rfl Try.underlying25 (.int .i64 0) 8 info3 rfl (by decide) (by omega) 0 (ok := fun _ => True) (okp := fun _ => True) rfl (fun _ hk => hk) trivial (oD_) (Nat.le_trans (Nat.mul_le_mul_right _ (oD_ : (l0.length : Int).toNat ≤ 35184372088832)) (by omega)) (Below.refl _ _) (Nat.le_refl _) ?_; intro v240 w5 ho6 hb hg_ hnew_; clear hg_ hnew_; (first | rw [← Ny239.out] at ho6 | (simp only [Int.reduceToNat] at ho6; rw [← Ny239.out] at ho6)); replace HO241 := aM_ (Kd.R_lower ho6 (bY_ (bl_ HB))); replace HB := aM_ (bT_ (bl_ HB) hb); clear hb ho6) | ((with_reducible refine gC_ (f := 23) rfl ?_); refine gL_ (some 11) Try.func23 #[.slice A0 l0.length c0] rfl ?_; (with_reducible refine (r13_Edges.calls k _ _ l0 t242 _ ?side1 ?side2 A4.out).mono ?_); (case side1 => exact rC_ (Kd.C_below HR0.out HB.out)); (case side2 => exact HC0.out); rintro e w7 ⟨v243, rfl, ho0, hb⟩; refine ⟨_, rfl, ?_⟩; replace HO241 := aM_ (Kd.R_below (rR_ HO241) hb); replace HO244 := aM_ (Kd.R_lower ho0 (bY_ (bl_ HB))); replace HB := aM_ (bT_ (bl_ HB) hb); (try clear ho0)))
   go_loopg [5] k (fun kq v5 w' => ∃ (x3_1 : List Int) (x5_1 : Int), v5 = .int .i64 x5_1 ∧ As_ (r13_Heights.l0 kq l0 x3_1 t242 x5_1 = some r) ∧ As_ (kq ≤ k) ∧ As_ (Kd.R (Kd.int .i64) 3 w' w.heap.size (fun _ => True) v240 x3_1) ∧ As_ (Kd.R k51 51 w' w.heap.size (fun _ => True) v243 t242) ∧ As_ (Below w.heap.size w w'))
   case atStart => exact ⟨(y239), (wrap64 ((l0.length : Int) - 1)), eQ_, H, ⟨Nat.le_refl _⟩, ⟨rR_ HO241⟩, ⟨rR_ HO244⟩, ⟨bl_ HB⟩⟩
   case round =>
    clear H
    obtain ⟨x3_1, x5_1, rfl, HA, HK1, HO_3, HO_4, HB⟩ := hrel
    cases gk with
    | zero => exact absurd HA.out (by simp [r13_Heights.l0])
    | succ k1 =>
     have H := HA.out
     clear HA
     simp only [r13_Heights.l0] at H
     by_cases c8 : x5_1 ≥ 0
     ·rw [if_pos c8] at H
      have c8b0 := dE_ c8
      clear c8
      by_cases c9 : 0 ≤ x5_1
      ·rw [if_pos c9] at H
       have c9b0 := dE_ c9
       clear c9
       by_cases c10 : x5_1 < (l0.length : Int)
       ·rw [if_pos c10] at H
        have c10b0 := dE_ c10
        clear c10
        replace H := oB_ H
        obtain ⟨t246, A11, H⟩ := H
        by_cases c12 : x5_1 < (x3_1.length : Int)
        ·rw [if_pos c12] at H
         have c12b0 := dE_ c12
         clear c12
         obtain ⟨y247, hy247⟩ : ∃ y_ : List Int, y_ = (x3_1.set (x5_1 : Int).toNat t246) := ⟨_, rfl⟩
         replace H : (r13_Heights.l1 k1 l0 y247 t242 x5_1 0) = some r := by first | (rw [hy247]; with_reducible exact H) | (have H2_ := (Option.bind_some _ _).symm.trans H; rw [hy247]; with_reducible exact H2_) | (have H2_ := (Option.bind_some _ _).symm.trans H; with_reducible exact H2_) | with_reducible exact H | (rw [hy247]; exact H) | exact H
         have Ny247 := aM_ hy247
         clear hy247
         replace H := aM_ H
         have p245 : 0 ≤ (x5_1 : Int) := oD_
         have q245 : x5_1 < (l0.length : Int) := oD_
         obtain ⟨ad245, e245, hx245_0, hx245_1, hx245_2, hx245_3, hx245_4, hx245_5⟩ := at_T24 HR0.out x5_1 p245 q245
         cases e245
         replace hx245_0 := hC_ HB hx245_0
         replace hx245_1 := hC_ HB hx245_1
         replace hx245_2 := hC_ HB hx245_2
         replace hx245_3 := hC_ HB hx245_3
         replace hx245_4 := hC_ HB hx245_4
         replace hx245_5 := hC_ HB hx245_5
         replace p245 := eq_true p245
         replace q245 := eq_true q245
         go_wp2_with (first | ((with_reducible refine gC_ (f := 27) rfl ?_); refine gL_ (some 26) Try.func27 #[.int .i64 ((q24 l0 x5_1).f0)] rfl ?_; (with_reducible refine (r3_Latency.calls k1 ((q24 l0 x5_1).f0) t246 _ A11.out).mono ?_); rintro e w' ⟨rfl, ⟨nd, rfl⟩⟩; refine ⟨_, rfl, ?_⟩; (try (rw [drewN_self wr]; generalize hq_ : World.drewN wr _ = wr; replace HO_3 : As_ (Kd.R (Kd.int .i64) 3 wr w.heap.size (fun _ => True) v240 x3_1) := ⟨by rw [← hq_]; exact (rR_ HO_3)⟩; replace HO_4 : As_ (Kd.R k51 51 wr w.heap.size (fun _ => True) v243 t242) := ⟨by rw [← hq_]; exact (rR_ HO_4)⟩; replace HB : As_ (Below w.heap.size w wr) := ⟨by rw [← hq_]; exact (bl_ HB)⟩; clear hq_)); have p13 : 0 ≤ (x5_1 : Int) := oD_; have q13 : (x5_1 : Int) < ((x3_1.length : Int) : Int) := oD_; obtain ⟨go13, co13, eo13, gb13, gl13, cl13, HG13⟩ := Kd.R_form HO_3.out (by omega); (first | cases eo13 | (injection eo13 with ea_ en_ ec_; (first | subst ea_ | (injection ea_ with ea_; subst ea_)); subst ec_; clear en_)); have GB13 := aM_ gb13; have GG13 := aM_ HG13; clear gb13 gl13 HG13; obtain ⟨hx13_0, hf13_0⟩ := Kd.R_celln 0 HO_3.out (x5_1 : Int) p13 q13; replace p13 := eq_true p13; replace q13 := eq_true q13; obtain ⟨hy14_, hz14_⟩ := Kd.R_celln 0 HO_3.out (x5_1 : Int) (oD_) (oD_); have HP14 := Kd.R_putg HO_3.out (x5_1 : Int) t246) | ((with_reducible refine gate_store (t := 3) (p := 27) rfl ?_); refine store_event (t := 3) (p := 27) (v := ?vo_w15) (w1 := (wr.setCell ⟨go13, (x5_1 : Int).toNat, none⟩ (.int .i64 t246))) ?hg ?ho ?hn ?hr ?_; (case ho => rfl); (case hg => rfl); (case hn => rfl); (case hr => first | (go_simp; done) | (go_simp; rfl)); intro w15 hw; have hg : wr.grownBy w15 (some go13) := (by rw [hw]; exact HP14.2); have hp_ : Kd.R (Kd.int .i64) 3 w15 w.heap.size (fun _ => True) (.slice (some ⟨go13, 0, none⟩) x3_1.length co13) y247 := (by rw [hw, Ny247.out]; exact HP14.1); clear HP14; replace HO_4 := aM_ (Kd.R_over' (v := (.slice (some ⟨go13, 0, none⟩) x3_1.length co13)) (rR_ HO_4) (Kd.R_typed HO_3.out) (by decide) hg); replace HO_3 := aM_ (hp_); replace HB := aM_ ((by rw [hw]; exact bS_ (HB.out) GB13.out : Below w.heap.size w w15)); clear hg hw hp_))
         go_loopg [6] k1 (fun kq v6 w' => ∃ (x3_2 : List Int) (x6_2 : Int), v6 = .int .i64 x6_2 ∧ As_ (r13_Heights.l1 kq l0 x3_2 t242 x5_1 x6_2 = some r) ∧ As_ (kq ≤ k1) ∧ As_ (Kd.R (Kd.int .i64) 3 w' w.heap.size (fun _ => True) (.slice (some ⟨go13, 0, none⟩) x3_1.length co13) x3_2) ∧ As_ (Kd.R k51 51 w' w.heap.size (fun _ => True) v243 t242) ∧ As_ (Below w.heap.size w w'))
         case atStart => exact ⟨(y247), (0), eQ_, H, ⟨Nat.le_refl _⟩, ⟨rR_ HO_3⟩, ⟨rR_ HO_4⟩, ⟨bl_ HB⟩⟩
         case round =>
          clear H
          obtain ⟨x3_2, x6_2, rfl, HA, HK2, HO_3, HO_4, HB⟩ := hrel
          have hl3_2 := (Kd.R_reads' HO_3.out).1
          rw [hl3_2] at HO_3
          (try simp only [hl3_2])
          (try simp only [hl3_2] at HO_4)
          cases gk with
          | zero => exact absurd HA.out (by simp [r13_Heights.l1])
          | succ k2 =>
           have H := HA.out
           clear HA
           simp only [r13_Heights.l1] at H
           by_cases c16 : x6_2 < (t242.length : Int)
           ·rw [if_pos c16] at H
            have c16b0 := dE_ c16
            clear c16
            by_cases c17 : 0 ≤ x6_2
            ·rw [if_pos c17] at H
             have c17b0 := dE_ c17
             clear c17
             by_cases c18 : ((q51 t242 x6_2).f0) = x5_1
             ·rw [if_pos c18] at H
              have c18b0 := bH_ c18
              have c18b1 := bF_ c18
              clear c18
              by_cases c19 : 0 ≤ x5_1
              ·rw [if_pos c19] at H
               have c19b0 := dE_ c19
               clear c19
               by_cases c20 : x5_1 < (x3_2.length : Int)
               ·rw [if_pos c20] at H
                have c20b0 := dE_ c20
                clear c20
                by_cases c21 : 0 ≤ ((q51 t242 x6_2).f1)
                ·rw [if_pos c21] at H
                 have c21b0 := dE_ c21
                 clear c21
                 by_cases c22 : ((q51 t242 x6_2).f1) < (x3_2.length : Int)
                 ·rw [if_pos c22] at H
                  have c22b0 := dE_ c22
                  clear c22
                  obtain ⟨ji23, hji23⟩ : ∃ j_ : Int, (mx (rd x3_2 x5_1) (wrap64 (((q51 t242 x6_2).f2) + (rd x3_2 ((q51 t242 x6_2).f1))))) = j_ := ⟨_, rfl⟩
                  replace H : (r13_Heights.l1 k2 l0 (x3_2.set (x5_1 : Int).toNat (ji23)) t242 x5_1 (wrap64 (x6_2 + 1))) = some r := by first | (rw [hji23] at H; exact H) | (simp only [hji23] at H ⊢; exact H)
                  have hji23_ : (if (rd x3_2 x5_1) < (wrap64 (((q51 t242 x6_2).f2) + (rd x3_2 ((q51 t242 x6_2).f1)))) then (wrap64 (((q51 t242 x6_2).f2) + (rd x3_2 ((q51 t242 x6_2).f1)))) else (rd x3_2 x5_1)) = ji23 := hji23
                  obtain ⟨y253, hy253⟩ : ∃ y_ : List Int, y_ = (x3_2.set (x5_1 : Int).toNat (ji23)) := ⟨_, rfl⟩
                  replace H : (r13_Heights.l1 k2 l0 y253 t242 x5_1 (wrap64 (x6_2 + 1))) = some r := by first | (rw [hy253]; with_reducible exact H) | (have H2_ := (Option.bind_some _ _).symm.trans H; rw [hy253]; with_reducible exact H2_) | (have H2_ := (Option.bind_some _ _).symm.trans H; with_reducible exact H2_) | with_reducible exact H | (rw [hy253]; exact H) | exact H
                  have Ny253 := aM_ hy253
                  clear hy253
                  replace H := aM_ H
                  obtain ⟨Ao25, co25, eo25⟩ := Kd.R_slice HO_4.out
                  subst eo25
                  have p248 : 0 ≤ (x6_2 : Int) := oD_
                  have q248 : x6_2 < (t242.length : Int) := oD_
                  obtain ⟨ad248, e248, hx248_0, hx248_1, hx248_2⟩ := at_T51 (Kd.R_reads' HO_4.out).2.2 x6_2 p248 q248
                  cases e248
                  replace p248 := eq_true p248
                  replace q248 := eq_true q248
                  try go_wp2
                  replace HO_3 := aM_ (Kd.R_drew HO_3.out)
                  replace HO_4 := aM_ (Kd.R_drew HO_4.out)
                  replace HB := aM_ (b1_ HB.out)
                  have p249 : 0 ≤ (x5_1 : Int) := oD_
                  have q249 : x5_1 < (x3_2.length : Int) := oD_
                  obtain ⟨ad249, e249, hx249_0⟩ := Kd.at_int (Kd.R_reads' HO_3.out).2.2 x5_1 p249 q249
                  obtain rfl : (⟨go13, 0, none⟩ : Addr) = ad249 := (by injection e249)
                  (first | simp only [add_plain] at hx249_0 | simp only [add_at] at hx249_0 | simp only [Addr.add, Nat.zero_add] at hx249_0 | skip)
                  replace p249 := eq_true p249
                  replace q249 := eq_true q249
                  have p250 : 0 ≤ (x6_2 : Int) := oD_
                  have q250 : x6_2 < (t242.length : Int) := oD_
                  obtain ⟨ad250, e250, hx250_0, hx250_1, hx250_2⟩ := at_T51 (Kd.R_reads' HO_4.out).2.2 x6_2 p250 q250
                  obtain rfl : ad248 = ad250 := (by injection e250)
                  replace p250 := eq_true p250
                  replace q250 := eq_true q250
                  have p251 : 0 ≤ (x6_2 : Int) := oD_
                  have q251 : x6_2 < (t242.length : Int) := oD_
                  obtain ⟨ad251, e251, hx251_0, hx251_1, hx251_2⟩ := at_T51 (Kd.R_reads' HO_4.out).2.2 x6_2 p251 q251
                  obtain rfl : ad248 = ad251 := (by injection e251)
                  replace p251 := eq_true p251
                  replace q251 := eq_true q251
                  have p252 : 0 ≤ (((q51 t242 x6_2).f1) : Int) := oD_
                  have q252 : ((q51 t242 x6_2).f1) < (x3_2.length : Int) := oD_
                  obtain ⟨ad252, e252, hx252_0⟩ := Kd.at_int (Kd.R_reads' HO_3.out).2.2 ((q51 t242 x6_2).f1) p252 q252
                  obtain rfl : (⟨go13, 0, none⟩ : Addr) = ad252 := (by injection e252)
                  (first | simp only [add_plain] at hx252_0 | simp only [add_at] at hx252_0 | simp only [Addr.add, Nat.zero_add] at hx252_0 | skip)
                  replace p252 := eq_true p252
                  replace q252 := eq_true q252
                  have p24 : 0 ≤ (x5_1 : Int) := oD_
                  have q24 : (x5_1 : Int) < ((x3_2.length : Int) : Int) := oD_
                  obtain ⟨hx24_0, hf24_0⟩ := Kd.R_celln 0 HO_3.out (x5_1 : Int) p24 q24
                  replace p24 := eq_true p24
                  replace q24 := eq_true q24
                  have HP27 := Kd.R_putn HO_3.out (x5_1 : Int) ji23
                  rw [← Ny253.out] at HP27
                  have HQ27 := aM_ HP27
                  clear HP27
                  refine start_ (n := 23) (S := fun w' => w'.cell? ⟨go13, (x5_1).toNat, none⟩ = some (.int .i64 (rd x3_2 x5_1)) ∧ w'.cell? (ad248.add ((x6_2).toNat * 3)) = some (.int .i64 ((q51 t242 x6_2).f0)) ∧ w'.cell? ⟨(ad248.add ((x6_2).toNat * 3)).block, (ad248.add ((x6_2).toNat * 3)).off + 1, none⟩ = some (.int .i64 ((q51 t242 x6_2).f1)) ∧ w'.cell? ⟨(ad248.add ((x6_2).toNat * 3)).block, (ad248.add ((x6_2).toNat * 3)).off + 2, none⟩ = some (.int .i64 ((q51 t242 x6_2).f2)) ∧ w'.cell? (ad248.add ((x6_2).toNat * 3)) = some (.int .i64 ((q51 t242 x6_2).f0)) ∧ w'.cell? ⟨(ad248.add ((x6_2).toNat * 3)).block, (ad248.add ((x6_2).toNat * 3)).off + 1, none⟩ = some (.int .i64 ((q51 t242 x6_2).f1)) ∧ w'.cell? ⟨(ad248.add ((x6_2).toNat * 3)).block, (ad248.add ((x6_2).toNat * 3)).off + 2, none⟩ = some (.int .i64 ((q51 t242 x6_2).f2)) ∧ w'.cell? ⟨go13, (((q51 t242 x6_2).f1)).toNat, none⟩ = some (.int .i64 (rd x3_2 ((q51 t242 x6_2).f1)))) (ds := [22]) (bm 23 0) (by kernel_rfl) rfl (by kernel_rfl) ⟨hx249_0, hx250_0, hx250_1, hx250_2, hx251_0, hx251_1, hx251_2, hx252_0⟩ (fun hHeld => ?_); refine with_tabW r13_Heights.tab11 r13_Heights.bits11 (fun HT_ HW_ => ?_)
                  generalize wr.drew = w26 at HO_3 HO_4 HB HQ27 hf24_0 hx249_0 hx24_0 hx250_0 hx250_1 hx250_2 hx251_0 hx251_1 hx251_2 hx252_0 hHeld ⊢
                  refine seq_ (k := 1) [(0, some 41, false), (1, some 42, false), (2, some 43, false), (3, some 44, false), (4, some 45, false), (6, some 47, false), (7, some 48, false), (8, some 49, false), (9, some 50, false), (11, some 52, false), (12, some 53, false), (13, some 54, false), (14, some 55, false), (15, some 56, false), (5, some 46, true), (10, some 51, true), (16, some 57, true), (17, some 58, false), (18, some 59, true), (19, some 60, false), (20, some 61, false), (21, some 62, false)] (bm 23 4194303) rfl (seq_of HT_.out HW_.out (by kernel_rfl)) (fun _ _ _ _ _ h => h) hHeld ?_
                  repeat (first | (refine SeqOn.pure (v := ?_) (a' := ?_) rfl rfl (Or.inl ⟨by kernel_rfl, ?_⟩) ?_ ?_; rotate_left 2; (focus (intro w'; go_simp; with_reducible rfl)); (focus exact pU_)) | (refine SeqOn.take (v := ?_) (a' := ?_) rfl rfl (Or.inl ⟨by kernel_rfl, ?_⟩) ?_ ?_; rotate_left 2; (focus (rintro w' ⟨s0, s1, s2, s3, s4, s5, s6, s7⟩; go_simp; with_reducible rfl)); (focus exact pU_)))
                  refine SeqOn.nil ?_
                  refine last_ (i := 22) (N := none) (bm 23 8388607) rfl rfl (one_of HT_.out (by kernel_rfl)) (by decide) (fun K hK => ?_)
                  refine skip_ (w1 := ?_) (by rfl) rfl ?_ ?_
                  rotate_left
                  ·go_simp
                   rfl
                  refine hK.out _ _ ?_
                  clear hK K
                  refine done_ (done_of HT_.out (by kernel_rfl)) ?_
                  try go_wp2
                  (try simp only [← hl3_2])
                  obtain ⟨cl_, GG_⟩ : ∃ cells, w26.heap[go13]? = some (.cells cells 3 (0, 0)) := (by obtain ⟨inner_, ho_⟩ := Kd.R_own HO_3.out; exact own_typed ho_ go13 rfl)
                  go_roundg k2
                  case measure => have := HK1.out; have := HK2.out; omega
                  case rel => exact ⟨(y253), (wrap64 (x6_2 + 1)), eQ_, H, ⟨by have := HK1.out; have := HK2.out; omega⟩, ⟨by (try simp only [hl3_2]); (with_reducible repeat (first | apply Kd.R_alloc | apply Kd.R_drewN | apply Kd.R_drew)); exact HQ27.out⟩, ⟨by (try simp only [hl3_2]); (with_reducible repeat (first | apply Kd.R_alloc | apply Kd.R_drewN | apply Kd.R_drew)); exact Kd.R_mono (Kd.R_far (p := ⟨go13, (x5_1 : Int).toNat, none⟩) (Kd.R_types HO_4.out GG_ (by decide)) (fun _ hk => hk.2) (.int .i64 ji23)) (fun _ hk => trivial)⟩, ⟨bs_ HB GB13⟩⟩
                 rw [if_neg c22] at H
                 exact absurd H (by simp)
                rw [if_neg c21] at H
                exact absurd H (by simp)
               rw [if_neg c20] at H
               exact absurd H (by simp)
              rw [if_neg c19] at H
              exact absurd H (by simp)
             rw [if_neg c18] at H
             have c18b0 := bE_ c18
             have c18b1 := bG_ c18
             replace H := aM_ H
             obtain ⟨Ao28, co28, eo28⟩ := Kd.R_slice HO_4.out
             subst eo28
             have p248 : 0 ≤ (x6_2 : Int) := oD_
             have q248 : x6_2 < (t242.length : Int) := oD_
             obtain ⟨ad248, e248, hx248_0, hx248_1, hx248_2⟩ := at_T51 (Kd.R_reads' HO_4.out).2.2 x6_2 p248 q248
             cases e248
             replace p248 := eq_true p248
             replace q248 := eq_true q248
             go_wp2
             (try simp only [← hl3_2])
             go_roundg k2
             case measure => have := HK1.out; have := HK2.out; omega
             case rel => exact ⟨(x3_2), (wrap64 (x6_2 + 1)), eQ_, H, ⟨by have := HK1.out; have := HK2.out; omega⟩, ⟨by (try simp only [hl3_2]); (with_reducible repeat (first | apply Kd.R_alloc | apply Kd.R_drewN | apply Kd.R_drew)); exact HO_3.out⟩, ⟨by (try simp only [hl3_2]); (with_reducible repeat (first | apply Kd.R_alloc | apply Kd.R_drewN | apply Kd.R_drew)); exact HO_4.out⟩, ⟨bl_ HB⟩⟩
            rw [if_neg c17] at H
            exact absurd H (by simp)
           rw [if_neg c16] at H
           have c16b0 := dF_ c16
           clear c16
           replace H := aM_ H
           obtain ⟨Ao29, co29, eo29⟩ := Kd.R_slice HO_4.out
           subst eo29
           go_wp2
           (try simp only [← hl3_2])
           go_roundg k2
           case measure => have := HK1.out; have := HK2.out; omega
           case rel => exact ⟨(x3_2), (wrap64 (x5_1 - 1)), eQ_, H, ⟨by have := HK1.out; have := HK2.out; omega⟩, ⟨by (try simp only [hl3_2]); (with_reducible repeat (first | apply Kd.R_alloc | apply Kd.R_drewN | apply Kd.R_drew)); exact HO_3.out⟩, ⟨by (try simp only [hl3_2]); (with_reducible repeat (first | apply Kd.R_alloc | apply Kd.R_drewN | apply Kd.R_drew)); exact HO_4.out⟩, ⟨bl_ HB⟩⟩
        rw [if_neg c12] at H
        exact absurd H (by simp)
       rw [if_neg c10] at H
       exact absurd H (by simp)
      rw [if_neg c9] at H
      exact absurd H (by simp)
     rw [if_neg c8] at H
     have c8b0 := dF_ c8
     clear c8
     obtain rfl := oI_ H
     go_wp2
     go_ret
     exact ⟨_, eR_, rR_ HO_3, bl_ HB⟩
  rw [if_neg c3] at H
  exact absurd H (by simp)
 rw [if_neg c2] at H
 exact absurd H (by simp)
end
section
attribute [local go_sem] max2_int min2_int max_two min_two max_three min_three max_four min_four
mutual
def r13_Straight.l0 : Nat → List (S24) → Int → Option (Bool)
  | 0, _, _ => none
  | k + 1, x0, x3 => if x3 < (x0.length : Int) then (r13_Straight.j1 k x0 x3 (decide (x3 ≤ 200))) else (r13_Straight.j1 k x0 x3 false)
def r13_Straight.j1 : Nat → List (S24) → Int → Bool → Option (Bool)
  | 0, _, _, _ => none
  | k + 1, x0, x3, x11 => if x11 = true then (if 0 ≤ x3 then (if x3 < (x0.length : Int) then ((r3_Ins.f k ((q24 x0 x3).f0) ((q24 x0 x3).f1) ((q24 x0 x3).f2) ((q24 x0 x3).f3) ((q24 x0 x3).f4) ((q24 x0 x3).f5)).bind fun t294 => (if t294 = true then (if ((q24 x0 x3).f0) = 0 then (r13_Straight.j2 k x0 x3 true) else ((r3_Ends.f ((q24 x0 x3).f0)).bind fun t297 => (r13_Straight.j2 k x0 x3 t297))) else (r13_Straight.j2 k x0 x3 true))) else (none)) else (none)) else (some (decide ((x0.length : Int) ≤ 200)))
def r13_Straight.j2 : Nat → List (S24) → Int → Bool → Option (Bool)
  | 0, _, _, _ => none
  | k + 1, x0, x3, x35 => if x35 = true then (some false) else (r13_Straight.l0 k x0 (wrap64 (x3 + 1)))
end
def r13_Straight.f (k : Nat) (l0 : List (S24)) : Option (Bool) := r13_Straight.l0 k l0 0
theorem r13_Straight.calls (k : Nat) (A0 : Option Addr) (c0 : Nat) (l0 : List (S24)) (r : Bool) (w : World) (hr0 : Kd.C k24 w A0 l0.length l0) (hc0 : l0.length ≤ c0) (h : r13_Straight.f k l0 = some r) :
    Calls Try.prog 32 #[.slice A0 l0.length c0] w fun e w' => e = .returned (.bool r) ∧ Below w.heap.size w w' := by
 have hu24 := Try.underlying24
 have HR0 := aM_ hr0
 have HC0 := aM_ hc0
 clear hr0 hc0
 have HB := aM_ (Below.refl w.heap.size w)
 have H : (r13_Straight.l0 k l0 0) = some r := h
 clear h
 replace H := aM_ H
 go_enter Try.func32, Try.ntmps32
 go_wp2
 go_loopg [3] k (fun kq v3 w' => ∃ (x3_1 : Int), v3 = .int .i64 x3_1 ∧ As_ (r13_Straight.l0 kq l0 x3_1 = some r) ∧ As_ (kq ≤ k) ∧ As_ (Below w.heap.size w w'))
 case atStart => exact ⟨(0), eQ_, H, ⟨Nat.le_refl _⟩, ⟨bl_ HB⟩⟩
 case round =>
  clear H
  obtain ⟨x3_1, rfl, HA, HK1, HB⟩ := hrel
  cases gk with
  | zero => exact absurd HA.out (by simp [r13_Straight.l0])
  | succ k1 =>
   have H := HA.out
   clear HA
   simp only [r13_Straight.l0] at H
   have HC2 := aM_ H
   clear H
   go_upto_region 2 with (fail)
   go_cut [11] (fun v11 wc => ∃ (kq : Nat) (x11_1 : Bool), v11 = .bool x11_1 ∧ As_ (r13_Straight.j1 kq l0 x3_1 x11_1 = some r) ∧ As_ (kq ≤ k1) ∧ As_ (Below w.heap.size w wc))
   case first =>
    have H := HC2.out
    clear HC2
    by_cases c3 : x3_1 < (l0.length : Int)
    ·rw [if_pos c3] at H
     have c3b0 := dE_ c3
     clear c3
     (first | rw [c3b0] | (simp only [i64_w, i32_w]; rw [c3b0]) | skip)
     replace H := aM_ H
     go_wp2
     go_meet
     case rel => exact ⟨_, (decide (x3_1 ≤ 200)), eQ_, H, ⟨by have := HK1.out; first | omega | exact Nat.le_refl _⟩, ⟨bl_ HB⟩⟩
    rw [if_neg c3] at H
    have c3b0 := dF_ c3
    clear c3
    (first | rw [c3b0] | (simp only [i64_w, i32_w]; rw [c3b0]) | skip)
    replace H := aM_ H
    go_wp2
    go_meet
    case rel => exact ⟨_, (false), eQ_, H, ⟨by have := HK1.out; first | omega | exact Nat.le_refl _⟩, ⟨bl_ HB⟩⟩
   case rest =>
    clear HC2
    obtain ⟨kq, x11_1, rfl, HA, HJ1, HB⟩ := hcut
    cases kq with
    | zero => exact absurd HA.out (by simp [r13_Straight.j1])
    | succ kj1 =>
     have H := HA.out
     clear HA
     simp only [r13_Straight.j1] at H
     by_cases c4 : x11_1 = true
     ·subst c4
      rw [if_pos rfl] at H
      have HC5 := aM_ H
      clear H
      go_upto_region 4 with (fail)
      go_cut [35] (fun v35 wc => ∃ (kq : Nat) (x35_4 : Bool), v35 = .bool x35_4 ∧ As_ (r13_Straight.j2 kq l0 x3_1 x35_4 = some r) ∧ As_ (kq ≤ kj1) ∧ As_ (Below w.heap.size w wc))
      case first =>
       have H := HC5.out
       clear HC5
       by_cases c6 : 0 ≤ x3_1
       ·rw [if_pos c6] at H
        have c6b0 := dE_ c6
        clear c6
        (first | rw [c6b0] | (simp only [i64_w, i32_w]; rw [c6b0]) | skip)
        by_cases c7 : x3_1 < (l0.length : Int)
        ·rw [if_pos c7] at H
         have c7b0 := dE_ c7
         clear c7
         replace H := oB_ H
         obtain ⟨t294, A8, H⟩ := H
         by_cases c9 : t294 = true
         ·subst c9
          rw [if_pos rfl] at H
          by_cases c10 : ((q24 l0 x3_1).f0) = 0
          ·rw [if_pos c10] at H
           have c10b0 := bH_ c10
           have c10b1 := bF_ c10
           clear c10
           replace H := aM_ H
           have p293 : 0 ≤ (x3_1 : Int) := oD_
           have q293 : x3_1 < (l0.length : Int) := oD_
           obtain ⟨ad293, e293, hx293_0, hx293_1, hx293_2, hx293_3, hx293_4, hx293_5⟩ := at_T24 HR0.out x3_1 p293 q293
           cases e293
           replace hx293_0 := hC_ HB hx293_0
           replace hx293_1 := hC_ HB hx293_1
           replace hx293_2 := hC_ HB hx293_2
           replace hx293_3 := hC_ HB hx293_3
           replace hx293_4 := hC_ HB hx293_4
           replace hx293_5 := hC_ HB hx293_5
           replace p293 := eq_true p293
           replace q293 := eq_true q293
           go_wp2_with (first | ((with_reducible refine gC_ (f := 39) rfl ?_); refine gL_ (some 18) Try.func39 #[.agg #[.int .i64 ((q24 l0 x3_1).f0), .int .i64 ((q24 l0 x3_1).f1), .int .i64 ((q24 l0 x3_1).f2), .int .i64 ((q24 l0 x3_1).f3), .int .i64 ((q24 l0 x3_1).f4), .string ((q24 l0 x3_1).f5)]] rfl ?_; (with_reducible refine (r3_Ins.calls kj1 ((q24 l0 x3_1).f0) ((q24 l0 x3_1).f1) ((q24 l0 x3_1).f2) ((q24 l0 x3_1).f3) ((q24 l0 x3_1).f4) ((q24 l0 x3_1).f5) true _ A8.out).mono ?_); rintro e w11 ⟨rfl, hb⟩; refine ⟨_, rfl, ?_⟩; replace HB := aM_ (bT_ (bl_ HB) hb); have p295 : 0 ≤ (x3_1 : Int) := oD_; have q295 : x3_1 < (l0.length : Int) := oD_; obtain ⟨ad295, e295, hx295_0, hx295_1, hx295_2, hx295_3, hx295_4, hx295_5⟩ := at_T24 HR0.out x3_1 p295 q295; obtain rfl : ad293 = ad295 := (by injection e295); replace hx295_0 := hC_ HB hx295_0; replace hx295_1 := hC_ HB hx295_1; replace hx295_2 := hC_ HB hx295_2; replace hx295_3 := hC_ HB hx295_3; replace hx295_4 := hC_ HB hx295_4; replace hx295_5 := hC_ HB hx295_5; replace p295 := eq_true p295; replace q295 := eq_true q295))
           go_meet
           case rel => exact ⟨_, (true), eQ_, H, ⟨by have := HK1.out; have := HJ1.out; first | omega | exact Nat.le_refl _⟩, ⟨bl_ HB⟩⟩
          rw [if_neg c10] at H
          have c10b0 := bE_ c10
          have c10b1 := bG_ c10
          replace H := oB_ H
          obtain ⟨t297, A12, H⟩ := H
          replace H := aM_ H
          have p293 : 0 ≤ (x3_1 : Int) := oD_
          have q293 : x3_1 < (l0.length : Int) := oD_
          obtain ⟨ad293, e293, hx293_0, hx293_1, hx293_2, hx293_3, hx293_4, hx293_5⟩ := at_T24 HR0.out x3_1 p293 q293
          cases e293
          replace hx293_0 := hC_ HB hx293_0
          replace hx293_1 := hC_ HB hx293_1
          replace hx293_2 := hC_ HB hx293_2
          replace hx293_3 := hC_ HB hx293_3
          replace hx293_4 := hC_ HB hx293_4
          replace hx293_5 := hC_ HB hx293_5
          replace p293 := eq_true p293
          replace q293 := eq_true q293
          go_wp2_with (first | ((with_reducible refine gC_ (f := 39) rfl ?_); refine gL_ (some 18) Try.func39 #[.agg #[.int .i64 ((q24 l0 x3_1).f0), .int .i64 ((q24 l0 x3_1).f1), .int .i64 ((q24 l0 x3_1).f2), .int .i64 ((q24 l0 x3_1).f3), .int .i64 ((q24 l0 x3_1).f4), .string ((q24 l0 x3_1).f5)]] rfl ?_; (with_reducible refine (r3_Ins.calls kj1 ((q24 l0 x3_1).f0) ((q24 l0 x3_1).f1) ((q24 l0 x3_1).f2) ((q24 l0 x3_1).f3) ((q24 l0 x3_1).f4) ((q24 l0 x3_1).f5) true _ A8.out).mono ?_); rintro e w13 ⟨rfl, hb⟩; refine ⟨_, rfl, ?_⟩; replace HB := aM_ (bT_ (bl_ HB) hb); have p295 : 0 ≤ (x3_1 : Int) := oD_; have q295 : x3_1 < (l0.length : Int) := oD_; obtain ⟨ad295, e295, hx295_0, hx295_1, hx295_2, hx295_3, hx295_4, hx295_5⟩ := at_T24 HR0.out x3_1 p295 q295; obtain rfl : ad293 = ad295 := (by injection e295); replace hx295_0 := hC_ HB hx295_0; replace hx295_1 := hC_ HB hx295_1; replace hx295_2 := hC_ HB hx295_2; replace hx295_3 := hC_ HB hx295_3; replace hx295_4 := hC_ HB hx295_4; replace hx295_5 := hC_ HB hx295_5; replace p295 := eq_true p295; replace q295 := eq_true q295; have p296 : 0 ≤ (x3_1 : Int) := oD_; have q296 : x3_1 < (l0.length : Int) := oD_; obtain ⟨ad296, e296, hx296_0, hx296_1, hx296_2, hx296_3, hx296_4, hx296_5⟩ := at_T24 HR0.out x3_1 p296 q296; obtain rfl : ad293 = ad296 := (by injection e296); replace hx296_0 := hC_ HB hx296_0; replace hx296_1 := hC_ HB hx296_1; replace hx296_2 := hC_ HB hx296_2; replace hx296_3 := hC_ HB hx296_3; replace hx296_4 := hC_ HB hx296_4; replace hx296_5 := hC_ HB hx296_5; replace p296 := eq_true p296; replace q296 := eq_true q296) | (go_at_call 40; (with_reducible refine (r3_Ends.calls ((q24 l0 x3_1).f0) t297 _ A12.out).mono ?_); rintro e w' ⟨rfl, ⟨nd, rfl⟩⟩))
          go_meet
          case rel => exact ⟨_, (t297), eQ_, H, ⟨by have := HK1.out; have := HJ1.out; first | omega | exact Nat.le_refl _⟩, ⟨bl_ HB⟩⟩
         replace c9 := eF_ c9
         subst c9
         rw [if_neg Bool.false_ne_true] at H
         replace H := aM_ H
         have p293 : 0 ≤ (x3_1 : Int) := oD_
         have q293 : x3_1 < (l0.length : Int) := oD_
         obtain ⟨ad293, e293, hx293_0, hx293_1, hx293_2, hx293_3, hx293_4, hx293_5⟩ := at_T24 HR0.out x3_1 p293 q293
         cases e293
         replace hx293_0 := hC_ HB hx293_0
         replace hx293_1 := hC_ HB hx293_1
         replace hx293_2 := hC_ HB hx293_2
         replace hx293_3 := hC_ HB hx293_3
         replace hx293_4 := hC_ HB hx293_4
         replace hx293_5 := hC_ HB hx293_5
         replace p293 := eq_true p293
         replace q293 := eq_true q293
         go_wp2_with (first | ((with_reducible refine gC_ (f := 39) rfl ?_); refine gL_ (some 18) Try.func39 #[.agg #[.int .i64 ((q24 l0 x3_1).f0), .int .i64 ((q24 l0 x3_1).f1), .int .i64 ((q24 l0 x3_1).f2), .int .i64 ((q24 l0 x3_1).f3), .int .i64 ((q24 l0 x3_1).f4), .string ((q24 l0 x3_1).f5)]] rfl ?_; (with_reducible refine (r3_Ins.calls kj1 ((q24 l0 x3_1).f0) ((q24 l0 x3_1).f1) ((q24 l0 x3_1).f2) ((q24 l0 x3_1).f3) ((q24 l0 x3_1).f4) ((q24 l0 x3_1).f5) false _ A8.out).mono ?_); rintro e w14 ⟨rfl, hb⟩; refine ⟨_, rfl, ?_⟩; replace HB := aM_ (bT_ (bl_ HB) hb)))
         go_meet
         case rel => exact ⟨_, (true), eQ_, H, ⟨by have := HK1.out; have := HJ1.out; first | omega | exact Nat.le_refl _⟩, ⟨bl_ HB⟩⟩
        rw [if_neg c7] at H
        exact absurd H (by simp)
       rw [if_neg c6] at H
       exact absurd H (by simp)
      case rest =>
       clear HC5
       obtain ⟨kq, x35_4, rfl, HA, HJ4, HB⟩ := hcut
       cases kq with
       | zero => exact absurd HA.out (by simp [r13_Straight.j2])
       | succ kj4 =>
        have H := HA.out
        clear HA
        simp only [r13_Straight.j2] at H
        by_cases c15 : x35_4 = true
        ·subst c15
         rw [if_pos rfl] at H
         obtain rfl := oI_ H
         go_wp2
         go_ret
         exact ⟨eR_, bl_ HB⟩
        replace c15 := eF_ c15
        subst c15
        rw [if_neg Bool.false_ne_true] at H
        replace H := aM_ H
        go_wp2
        go_roundg kj4
        case measure => have := HK1.out; have := HJ1.out; have := HJ4.out; omega
        case rel => exact ⟨(wrap64 (x3_1 + 1)), eQ_, H, ⟨by have := HK1.out; have := HJ1.out; have := HJ4.out; omega⟩, ⟨bl_ HB⟩⟩
     replace c4 := eF_ c4
     subst c4
     rw [if_neg Bool.false_ne_true] at H
     obtain rfl := oI_ H
     go_wp2
     go_ret
     exact ⟨eR_, bl_ HB⟩
end
end Go.Proofs.Ytibfkkjkahpobaa.PDag
