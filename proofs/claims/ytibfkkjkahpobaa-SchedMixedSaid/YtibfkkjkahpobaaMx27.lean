import Derived.Test.YtibfkkjkahpobaaMx15
import Derived.Test.YtibfkkjkahpobaaMx26
import Derived.Test.YtibfkkjkahpobaaMx20
import Derived.Test.YtibfkkjkahpobaaMx21
import Derived.Test.YtibfkkjkahpobaaMx16
import Derived.Test.YtibfkkjkahpobaaMx25
import Derived.Test.YtibfkkjkahpobaaMx18
set_option linter.unusedVariables false
set_option linter.unusedSimpArgs false
set_option maxHeartbeats 8000000
set_option maxRecDepth 100000
open Go.RowKit Go.Proofs.YtibfkkjkahpobaaW.PrintWords Go.Proofs.YtibfkkjkahpobaaW.PrintLast Go.Proofs.YtibfkkjkahpobaaW.PrintMore
namespace Go.Proofs.Ytibfkkjkahpobaa.PDag
section
attribute [local go_sem] max2_int min2_int max_two min_two max_three min_three max_four min_four
attribute [local go_sem high] eqA24
def r0_CopyCodes.l0 : Nat → List (S24) → List (S24) → Int → Option ((List (S24)))
  | 0, _, _, _ => none
  | k + 1, x0, x3, x4 => if x4 < (x0.length : Int) then (if 0 ≤ x4 then (if x3.length < 2513169434916 then (r0_CopyCodes.l0 k x0 (x3 ++ [(⟨(q24 x0 x4).f0, (q24 x0 x4).f1, (q24 x0 x4).f2, (q24 x0 x4).f3, (q24 x0 x4).f4, (q24 x0 x4).f5⟩ : S24)]) (wrap64 (x4 + 1))) else (none)) else (none)) else (some x3)
def r0_CopyCodes.f (k : Nat) (l0 : List (S24)) : Option ((List (S24))) := r0_CopyCodes.l0 k l0 ([] : List (S24)) 0
theorem r0_CopyCodes.calls (k : Nat) (A0 : Option Addr) (c0 : Nat) (l0 : List (S24)) (r : List (S24)) (w : World) (hr0 : Kd.C k24 w A0 l0.length l0) (hc0 : l0.length ≤ c0) (h : r0_CopyCodes.f k l0 = some r) :
    Calls Try.prog 30 #[.slice A0 l0.length c0] w fun e w' => ∃ v0_ : Value, e = .returned (v0_) ∧ Kd.R k24 24 w' w.heap.size (fun _ => True) v0_ r ∧ Below w.heap.size w w' := by
 have hu24 := Try.underlying24
 have HR0 := aM_ hr0
 have HC0 := aM_ hc0
 clear hr0 hc0
 have HB := aM_ (Below.refl w.heap.size w)
 have H : (r0_CopyCodes.l0 k l0 ([] : List (S24)) 0) = some r := h
 clear h
 replace H := aM_ H
 go_enter Try.func30, Try.ntmps30
 go_wp2
 go_loopg [3, 4] k (fun kq v3 v4 w' => ∃ (x3_1 : List (S24)) (x4_1 : Int), v4 = .int .i64 x4_1 ∧ As_ (r0_CopyCodes.l0 kq l0 x3_1 x4_1 = some r) ∧ As_ (kq ≤ k) ∧ As_ (Kd.R k24 24 w' w.heap.size (fun _ => True) v3 x3_1) ∧ As_ (Below w.heap.size w w'))
 case atStart => exact ⟨(([] : List (S24))), (0), eQ_, H, ⟨Nat.le_refl _⟩, ⟨by first | exact Kd.R_nil _ _ _ _ _ | exact Kd.N_nil _ _ _ _ _ | exact Kd.V_nil _ _ _ _ _ | exact Kd.Q_nil _ _ _ _ _ | exact Kd.S_nil _ _ _ _ _⟩, ⟨bl_ HB⟩⟩
 case round =>
  clear H
  obtain ⟨x3_1, x4_1, rfl, HA, HK1, HO_3, HB⟩ := hrel
  cases gk with
  | zero => exact absurd HA.out (by simp [r0_CopyCodes.l0])
  | succ k1 =>
   have H := HA.out
   clear HA
   simp only [r0_CopyCodes.l0] at H
   by_cases c2 : x4_1 < (l0.length : Int)
   ·rw [if_pos c2] at H
    have c2b0 := dE_ c2
    clear c2
    by_cases c3 : 0 ≤ x4_1
    ·rw [if_pos c3] at H
     have c3b0 := dE_ c3
     clear c3
     by_cases c4 : x3_1.length < 2513169434916
     ·rw [if_pos c4] at H
      have LMc4 := aM_ c4
      clear c4
      obtain ⟨y318, hy318⟩ : ∃ y_ : List (S24), y_ = (x3_1 ++ [(⟨(q24 l0 x4_1).f0, (q24 l0 x4_1).f1, (q24 l0 x4_1).f2, (q24 l0 x4_1).f3, (q24 l0 x4_1).f4, (q24 l0 x4_1).f5⟩ : S24)]) := ⟨_, rfl⟩
      replace H : (r0_CopyCodes.l0 k1 l0 y318 (wrap64 (x4_1 + 1))) = some r := by first | (rw [hy318]; with_reducible exact H) | (have H2_ := (Option.bind_some _ _).symm.trans H; rw [hy318]; with_reducible exact H2_) | (have H2_ := (Option.bind_some _ _).symm.trans H; with_reducible exact H2_) | with_reducible exact H | (rw [hy318]; exact H) | exact H
      have Ny318 := aM_ hy318
      clear hy318
      replace H := aM_ H
      have p317 : 0 ≤ (x4_1 : Int) := oD_
      have q317 : x4_1 < (l0.length : Int) := oD_
      obtain ⟨ad317, e317, hx317_0, hx317_1, hx317_2, hx317_3, hx317_4, hx317_5⟩ := at_T24 HR0.out x4_1 p317 q317
      cases e317
      replace hx317_0 := hC_ HB hx317_0
      replace hx317_1 := hC_ HB hx317_1
      replace hx317_2 := hC_ HB hx317_2
      replace hx317_3 := hC_ HB hx317_3
      replace hx317_4 := hC_ HB hx317_4
      replace hx317_5 := hC_ HB hx317_5
      replace p317 := eq_true p317
      replace q317 := eq_true q317
      go_wp2_with (first | ((with_reducible refine gate_builtin (b := .append) (xs := #[.tmp 11, .tmp 16]) rfl ?_); at_builtin; refine Kd.R_append k24 (w0 := w) w.heap.size rfl (.tmp 11) (.tmp 16) 22 24 (.agg #[(.int .i64 0), (.int .i64 0), (.int .i64 0), (.int .i64 0), (.int .i64 0), (.string ⟨#[]⟩)]) 56 rfl Try.underlying22 info24 rfl (by decide) (by omega) u3 x3_1 (⟨(q24 l0 x4_1).f0, (q24 l0 x4_1).f1, (q24 l0 x4_1).f2, (q24 l0 x4_1).f3, (q24 l0 x4_1).f4, (q24 l0 x4_1).f5⟩ : S24) [.int .i64 ((q24 l0 x4_1).f0), .int .i64 ((q24 l0 x4_1).f1), .int .i64 ((q24 l0 x4_1).f2), .int .i64 ((q24 l0 x4_1).f3), .int .i64 ((q24 l0 x4_1).f4), .string ((q24 l0 x4_1).f5)] (fun _ => True) (fun _ => False) rfl rfl ?aP (fun _ hk => hk.elim) ?aF ?aO ?aB ?aS ?aL ?_; (case aP => exact k24_mkM _ _ _ (⟨(q24 l0 x4_1).f0, (q24 l0 x4_1).f1, (q24 l0 x4_1).f2, (q24 l0 x4_1).f3, (q24 l0 x4_1).f4, (q24 l0 x4_1).f5⟩ : S24)); (case aB => exact (bl_ HB)); (case aF => exact (fun _ _ => trivial)); (case aO => exact (rR_ HO_3)); (case aS => exact (bY_ (bl_ HB))); (case aL => have := LMc4.out; omega); intro v319 w5 ho hb hg hat; rw [← Ny318.out] at ho; replace HB := aM_ (hb); replace HO320 := aM_ (ho); clear HO_3; clear ho hb hg hat))
      go_roundg k1
      case measure => have := HK1.out; omega
      case rel => exact ⟨(y318), (wrap64 (x4_1 + 1)), eQ_, H, ⟨by have := HK1.out; omega⟩, ⟨rR_ HO320⟩, ⟨bl_ HB⟩⟩
     rw [if_neg c4] at H
     exact absurd H (by simp)
    rw [if_neg c3] at H
    exact absurd H (by simp)
   rw [if_neg c2] at H
   have c2b0 := dF_ c2
   clear c2
   obtain rfl := oI_ H
   go_wp2
   go_ret
   exact ⟨_, eR_, rR_ HO_3, bl_ HB⟩
mutual
def r13_Urges.l0 : Nat → List (S24) → List Int → List (S51) → Int → Option (List Int)
  | 0, _, _, _, _ => none
  | k + 1, x0, x3, x4, x5 => if x5 ≥ 0 then (if 0 ≤ x5 then (if x5 < (x3.length : Int) then ((some (x3.set (x5 : Int).toNat (x0.length : Int) : List Int)).bind fun y334 => (if x5 < (x0.length : Int) then ((r3_Effect.f ((q24 x0 x5).f0)).bind fun t336 => (if t336 = true then (r13_Urges.j1 k x0 (y334.set (x5 : Int).toNat x5) x4 x5) else (r13_Urges.j1 k x0 y334 x4 x5))) else (none))) else (none)) else (none)) else (some x3)
def r13_Urges.j1 : Nat → List (S24) → List Int → List (S51) → Int → Option (List Int)
  | 0, _, _, _, _ => none
  | k + 1, x0, x3, x4, x5 => r13_Urges.l1 k x0 x3 x4 x5 0
def r13_Urges.l1 : Nat → List (S24) → List Int → List (S51) → Int → Int → Option (List Int)
  | 0, _, _, _, _, _ => none
  | k + 1, x0, x3, x4, x5, x6 => if x6 < (x4.length : Int) then (if 0 ≤ x6 then (if ((q51 x4 x6).f0) = x5 then (if 0 ≤ x5 then (if x5 < (x3.length : Int) then (if 0 ≤ ((q51 x4 x6).f1) then (if ((q51 x4 x6).f1) < (x3.length : Int) then (r13_Urges.l1 k x0 (x3.set (x5 : Int).toNat (mn (rd x3 x5) (rd x3 ((q51 x4 x6).f1)))) x4 x5 (wrap64 (x6 + 1))) else (none)) else (none)) else (none)) else (none)) else (r13_Urges.l1 k x0 x3 x4 x5 (wrap64 (x6 + 1)))) else (none)) else (r13_Urges.l0 k x0 x3 x4 (wrap64 (x5 - 1)))
end
def r13_Urges.f (k : Nat) (l0 : List (S24)) : Option (List Int) := if 0 ≤ (l0.length : Int) then (if ((l0.length : Int) : Int).toNat ≤ 35184372088832 then ((r13_Edges.f k l0).bind fun t331 => (r13_Urges.l0 k l0 (List.replicate ((l0.length : Int) : Int).toNat 0) t331 (wrap64 ((l0.length : Int) - 1)))) else (none)) else (none)
def r13_Urges.T13 : Bool × List (List Nat × List Nat) := (true, [([], []), ([], []), ([], []), ([], []), ([2, 3], [2, 3]), ([4], [4]), ([], []), ([], []), ([], []), ([7, 8], [7, 8]), ([9], [9]), ([10], [10]), ([6, 11], [6, 11]), ([12], [12]), ([5, 13], [5, 13]), ([0, 1, 0, 1, 2, 3, 4, 5, 6, 7, 8, 9, 10, 11, 12, 13, 14], [0, 1]), ([15, 14, 0, 1, 2, 3, 4, 5, 6, 7, 8, 9, 10, 11, 12, 13, 14], [14, 15])])
def r13_Urges.B13 : List Nat := [0, 0, 0, 0, 12, 28, 0, 0, 0, 384, 896, 1920, 4032, 8128, 16380, 32767, 65535]
theorem r13_Urges.tab13 : rtab .any (opsOf Try.f33 13) = r13_Urges.T13 := by kernel_rfl
theorem r13_Urges.bits13 : waitsOk r13_Urges.T13.2 r13_Urges.B13 = true := by kernel_rfl
theorem r13_Urges.calls (k : Nat) (A0 : Option Addr) (c0 : Nat) (l0 : List (S24)) (r : List Int) (w : World) (hr0 : Kd.C k24 w A0 l0.length l0) (hc0 : l0.length ≤ c0) (h : r13_Urges.f k l0 = some r) :
    Calls Try.prog 33 #[.slice A0 l0.length c0] w fun e w' => ∃ v0_ : Value, e = .returned (v0_) ∧ Kd.R (Kd.int .i64) 3 w' w.heap.size (fun _ => True) v0_ r ∧ Below w.heap.size w w' := by
 have HR0 := aM_ hr0
 have HC0 := aM_ hc0
 clear hr0 hc0
 have HB := aM_ (Below.refl w.heap.size w)
 have H : (if 0 ≤ (l0.length : Int) then (if ((l0.length : Int) : Int).toNat ≤ 35184372088832 then ((r13_Edges.f k l0).bind fun t331 => (r13_Urges.l0 k l0 (List.replicate ((l0.length : Int) : Int).toNat 0) t331 (wrap64 ((l0.length : Int) - 1)))) else (none)) else (none)) = some r := h
 clear h
 by_cases c2 : 0 ≤ (l0.length : Int)
 ·rw [if_pos c2] at H
  have c2b0 := eq_true c2
  have c2b1 := dE_ c2
  clear c2
  by_cases c3 : ((l0.length : Int) : Int).toNat ≤ 35184372088832
  ·rw [if_pos c3] at H
   have c3b0 := eq_true c3
   have c3b1 := dE_ c3
   clear c3
   obtain ⟨y328, hy328⟩ : ∃ y_ : List Int, y_ = (List.replicate ((l0.length : Int) : Int).toNat 0) := ⟨_, rfl⟩
   replace H : ((r13_Edges.f k l0).bind fun t331 => (r13_Urges.l0 k l0 y328 t331 (wrap64 ((l0.length : Int) - 1)))) = some r := by first | (rw [hy328]; with_reducible exact H) | (have H2_ := (Option.bind_some _ _).symm.trans H; rw [hy328]; with_reducible exact H2_) | (have H2_ := (Option.bind_some _ _).symm.trans H; with_reducible exact H2_) | with_reducible exact H | (rw [hy328]; exact H) | exact H
   have Ny328 := aM_ hy328
   clear hy328
   replace H := oB_ H
   obtain ⟨t331, A4, H⟩ := H
   replace H := aM_ H
   go_enter Try.func33, Try.ntmps33
   go_wp2_with (first | ((with_reducible refine gate_dst (N := 9) rfl ?_); refine Kd.R_make (Kd.int .i64) _ 3 rfl (N := 9) rfl 25 _ _ rfl (l0.length : Int) rfl rfl Try.underlying25 (.int .i64 0) 8 info3 rfl (by decide) (by omega) 0 (ok := fun _ => True) (okp := fun _ => True) rfl (fun _ hk => hk) trivial (oD_) (Nat.le_trans (Nat.mul_le_mul_right _ (oD_ : (l0.length : Int).toNat ≤ 35184372088832)) (by omega)) (Below.refl _ _) (Nat.le_refl _) ?_; intro v329 w5 ho6 hb hg_ hnew_; clear hg_ hnew_; (first | rw [← Ny328.out] at ho6 | (simp only [Int.reduceToNat] at ho6; rw [← Ny328.out] at ho6)); replace HO330 := aM_ (Kd.R_lower ho6 (bY_ (bl_ HB))); replace HB := aM_ (bT_ (bl_ HB) hb); clear hb ho6) | ((with_reducible refine gC_ (f := 23) rfl ?_); refine gL_ (some 11) Try.func23 #[.slice A0 l0.length c0] rfl ?_; (with_reducible refine (r13_Edges.calls k _ _ l0 t331 _ ?side1 ?side2 A4.out).mono ?_); (case side1 => exact rC_ (Kd.C_below HR0.out HB.out)); (case side2 => exact HC0.out); rintro e w7 ⟨v332, rfl, ho0, hb⟩; refine ⟨_, rfl, ?_⟩; replace HO330 := aM_ (Kd.R_below (rR_ HO330) hb); replace HO333 := aM_ (Kd.R_lower ho0 (bY_ (bl_ HB))); replace HB := aM_ (bT_ (bl_ HB) hb); (try clear ho0)))
   go_loopg [5] k (fun kq v5 w' => ∃ (x3_1 : List Int) (x5_1 : Int), v5 = .int .i64 x5_1 ∧ As_ (r13_Urges.l0 kq l0 x3_1 t331 x5_1 = some r) ∧ As_ (kq ≤ k) ∧ As_ (Kd.R (Kd.int .i64) 3 w' w.heap.size (fun _ => True) v329 x3_1) ∧ As_ (Kd.R k51 51 w' w.heap.size (fun _ => True) v332 t331) ∧ As_ (Below w.heap.size w w'))
   case atStart => exact ⟨(y328), (wrap64 ((l0.length : Int) - 1)), eQ_, H, ⟨Nat.le_refl _⟩, ⟨rR_ HO330⟩, ⟨rR_ HO333⟩, ⟨bl_ HB⟩⟩
   case round =>
    clear H
    obtain ⟨x3_1, x5_1, rfl, HA, HK1, HO_3, HO_4, HB⟩ := hrel
    cases gk with
    | zero => exact absurd HA.out (by simp [r13_Urges.l0])
    | succ k1 =>
     have H := HA.out
     clear HA
     simp only [r13_Urges.l0] at H
     by_cases c8 : x5_1 ≥ 0
     ·rw [if_pos c8] at H
      have c8b0 := dE_ c8
      clear c8
      by_cases c9 : 0 ≤ x5_1
      ·rw [if_pos c9] at H
       have c9b0 := dE_ c9
       clear c9
       by_cases c10 : x5_1 < (x3_1.length : Int)
       ·rw [if_pos c10] at H
        have c10b0 := dE_ c10
        clear c10
        obtain ⟨y334, hy334⟩ : ∃ y_ : List Int, y_ = (x3_1.set (x5_1 : Int).toNat (l0.length : Int)) := ⟨_, rfl⟩
        replace H : (if x5_1 < (l0.length : Int) then ((r3_Effect.f ((q24 l0 x5_1).f0)).bind fun t336 => (if t336 = true then (r13_Urges.j1 k1 l0 (y334.set (x5_1 : Int).toNat x5_1) t331 x5_1) else (r13_Urges.j1 k1 l0 y334 t331 x5_1))) else (none)) = some r := by first | (rw [hy334]; with_reducible exact H) | (have H2_ := (Option.bind_some _ _).symm.trans H; rw [hy334]; with_reducible exact H2_) | (have H2_ := (Option.bind_some _ _).symm.trans H; with_reducible exact H2_) | with_reducible exact H | (rw [hy334]; exact H) | exact H
        have Ny334 := aM_ hy334
        clear hy334
        by_cases c12 : x5_1 < (l0.length : Int)
        ·rw [if_pos c12] at H
         have c12b0 := dE_ c12
         clear c12
         replace H := oB_ H
         obtain ⟨t336, A13, H⟩ := H
         have HC14 := aM_ H
         clear H
         have p11 : 0 ≤ (x5_1 : Int) := oD_
         have q11 : (x5_1 : Int) < ((x3_1.length : Int) : Int) := oD_
         obtain ⟨go11, co11, eo11, gb11, gl11, cl11, HG11⟩ := Kd.R_form HO_3.out (by omega)
         (first | cases eo11 | (injection eo11 with ea_ en_ ec_; (first | subst ea_ | (injection ea_ with ea_; subst ea_)); subst ec_; clear en_))
         have GB11 := aM_ gb11
         have GG11 := aM_ HG11
         clear gb11 gl11 HG11
         obtain ⟨hx11_0, hf11_0⟩ := Kd.R_celln 0 HO_3.out (x5_1 : Int) p11 q11
         replace p11 := eq_true p11
         replace q11 := eq_true q11
         have HP15 := Kd.R_putg HO_3.out (x5_1 : Int) (l0.length : Int)
         go_upto_if 29 with (first | ((with_reducible refine gate_store (t := 3) (p := 23) rfl ?_); refine store_event (t := 3) (p := 23) (v := ?vo_w16) (w1 := (wr.setCell ⟨go11, (x5_1 : Int).toNat, none⟩ (.int .i64 (l0.length : Int)))) ?hg ?ho ?hn ?hr ?_; (case ho => rfl); (case hg => rfl); (case hn => rfl); (case hr => first | (go_simp; done) | (go_simp; rfl)); intro w16 hw; have hg : wr.grownBy w16 (some go11) := (by rw [hw]; exact HP15.2); have hp_ : Kd.R (Kd.int .i64) 3 w16 w.heap.size (fun _ => True) (.slice (some ⟨go11, 0, none⟩) x3_1.length co11) y334 := (by rw [hw, Ny334.out]; exact HP15.1); clear HP15; replace HO_4 := aM_ (Kd.R_over' (v := (.slice (some ⟨go11, 0, none⟩) x3_1.length co11)) (rR_ HO_4) (Kd.R_typed HO_3.out) (by decide) hg); replace HO_3 := aM_ (hp_); replace HB := aM_ ((by rw [hw]; exact bS_ (HB.out) GB11.out : Below w.heap.size w w16)); clear hg hw hp_; have p335 : 0 ≤ (x5_1 : Int) := oD_; have q335 : x5_1 < (l0.length : Int) := oD_; obtain ⟨ad335, e335, hx335_0, hx335_1, hx335_2, hx335_3, hx335_4, hx335_5⟩ := at_T24 HR0.out x5_1 p335 q335; cases e335; replace hx335_0 := hC_ HB hx335_0; replace hx335_1 := hC_ HB hx335_1; replace hx335_2 := hC_ HB hx335_2; replace hx335_3 := hC_ HB hx335_3; replace hx335_4 := hC_ HB hx335_4; replace hx335_5 := hC_ HB hx335_5; replace p335 := eq_true p335; replace q335 := eq_true q335) | ((with_reducible refine gC_ (f := 36) rfl ?_); refine gL_ (some 29) Try.func36 #[.int .i64 ((q24 l0 x5_1).f0)] rfl ?_; (with_reducible refine (r3_Effect.calls ((q24 l0 x5_1).f0) t336 _ A13.out).mono ?_); rintro e w' ⟨rfl, ⟨nd, rfl⟩⟩; refine ⟨_, rfl, ?_⟩; (try (have n0_ := aM_ (Kd.R_drewN HO_3.out nd); have n1_ := aM_ (Kd.R_drewN HO_4.out nd); have n9_ := aM_ (bN_ HB.out nd); generalize World.drewN w16 nd = w16 at n0_ n1_ n9_ ⊢; clear HB HO_3 HO_4; have HB := n9_; have HO_3 := n0_; have HO_4 := n1_; clear n9_ n0_ n1_))))
         (try simp only [Act.put, List.setIfInBounds_toArray, List.set_cons_zero, List.set_cons_succ])
         go_cut [] (fun wc => ∃ (kq : Nat) (x3_13 : List Int), As_ (r13_Urges.j1 kq l0 x3_13 t331 x5_1 = some r) ∧ As_ (kq ≤ k1) ∧ As_ (Kd.R (Kd.int .i64) 3 wc w.heap.size (fun _ => True) (.slice (some ⟨go11, 0, none⟩) x3_1.length co11) x3_13) ∧ As_ (Kd.R k51 51 wc w.heap.size (fun _ => True) v332 t331) ∧ As_ (Below w.heap.size w wc))
         case first =>
          have H := HC14.out
          clear HC14
          by_cases c17 : t336 = true
          ·subst c17
           rw [if_pos rfl] at H
           obtain ⟨y337, hy337⟩ : ∃ y_ : List Int, y_ = (y334.set (x5_1 : Int).toNat x5_1) := ⟨_, rfl⟩
           replace H : (r13_Urges.j1 k1 l0 y337 t331 x5_1) = some r := by first | (rw [hy337]; with_reducible exact H) | (have H2_ := (Option.bind_some _ _).symm.trans H; rw [hy337]; with_reducible exact H2_) | (have H2_ := (Option.bind_some _ _).symm.trans H; with_reducible exact H2_) | with_reducible exact H | (rw [hy337]; exact H) | exact H
           have Ny337 := aM_ hy337
           clear hy337
           replace H := aM_ H
           have p18 : 0 ≤ (x5_1 : Int) := oD_
           have q18 : (x5_1 : Int) < ((x3_1.length : Int) : Int) := oD_
           obtain ⟨hx18_0, hf18_0⟩ := Kd.R_celln 0 HO_3.out (x5_1 : Int) p18 q18
           replace p18 := eq_true p18
           replace q18 := eq_true q18
           have HP19 := Kd.R_putg HO_3.out (x5_1 : Int) x5_1
           go_wp2_with (first | ((with_reducible refine gate_store (t := 3) (p := 33) rfl ?_); refine store_event (t := 3) (p := 33) (v := ?vo_w20) (w1 := (w16.setCell ⟨go11, (x5_1 : Int).toNat, none⟩ (.int .i64 x5_1))) ?hg ?ho ?hn ?hr ?_; (case ho => rfl); (case hg => rfl); (case hn => rfl); (case hr => first | (go_simp; done) | (go_simp; rfl)); intro w20 hw; have hg : w16.grownBy w20 (some go11) := (by rw [hw]; exact HP19.2); have hp_ : Kd.R (Kd.int .i64) 3 w20 w.heap.size (fun _ => True) (.slice (some ⟨go11, 0, none⟩) x3_1.length co11) y337 := (by rw [hw, Ny337.out]; exact HP19.1); clear HP19; replace HO_4 := aM_ (Kd.R_over' (v := (.slice (some ⟨go11, 0, none⟩) x3_1.length co11)) (rR_ HO_4) (Kd.R_typed HO_3.out) (by decide) hg); replace HO_3 := aM_ (hp_); replace HB := aM_ ((by rw [hw]; exact bS_ (HB.out) GB11.out : Below w.heap.size w w20)); clear hg hw hp_))
           go_meet
           case rel => exact ⟨_, (y337), H, ⟨by have := HK1.out; first | omega | exact Nat.le_refl _⟩, ⟨rR_ HO_3⟩, ⟨rR_ HO_4⟩, ⟨bl_ HB⟩⟩
          replace c17 := eF_ c17
          subst c17
          rw [if_neg Bool.false_ne_true] at H
          replace H := aM_ H
          go_wp2
          go_meet
          case rel => exact ⟨_, (y334), H, ⟨by have := HK1.out; first | omega | exact Nat.le_refl _⟩, ⟨rR_ HO_3⟩, ⟨rR_ HO_4⟩, ⟨bl_ HB⟩⟩
         case rest =>
          clear HC14
          obtain ⟨kq, x3_13, HA, HJ13, HO_3, HO_4, HB⟩ := hcut
          have hl3_13 := (Kd.R_reads' HO_3.out).1
          rw [hl3_13] at HO_3
          (try simp only [hl3_13])
          (try simp only [hl3_13] at HO_4)
          cases kq with
          | zero => exact absurd HA.out (by simp [r13_Urges.j1])
          | succ kj13 =>
           have H := HA.out
           clear HA
           simp only [r13_Urges.j1] at H
           replace H := aM_ H
           go_wp2
           go_loopg [6] kj13 (fun kq v6 w' => ∃ (x3_3 : List Int) (x6_3 : Int), v6 = .int .i64 x6_3 ∧ As_ (r13_Urges.l1 kq l0 x3_3 t331 x5_1 x6_3 = some r) ∧ As_ (kq ≤ kj13) ∧ As_ (Kd.R (Kd.int .i64) 3 w' w.heap.size (fun _ => True) (.slice (some ⟨go11, 0, none⟩) x3_13.length co11) x3_3) ∧ As_ (Kd.R k51 51 w' w.heap.size (fun _ => True) v332 t331) ∧ As_ (Below w.heap.size w w'))
           case atStart => exact ⟨(x3_13), (0), eQ_, H, ⟨Nat.le_refl _⟩, ⟨by (try simp only [hl3_13]); (with_reducible repeat (first | apply Kd.R_alloc | apply Kd.R_drewN | apply Kd.R_drew)); exact HO_3.out⟩, ⟨by (try simp only [hl3_13]); (with_reducible repeat (first | apply Kd.R_alloc | apply Kd.R_drewN | apply Kd.R_drew)); exact HO_4.out⟩, ⟨bl_ HB⟩⟩
           case round =>
            clear H
            obtain ⟨x3_3, x6_3, rfl, HA, HK3, HO_3, HO_4, HB⟩ := hrel
            have hl3_3 := (Kd.R_reads' HO_3.out).1
            rw [hl3_3] at HO_3
            (try simp only [hl3_3])
            (try simp only [hl3_3] at HO_4)
            cases gk with
            | zero => exact absurd HA.out (by simp [r13_Urges.l1])
            | succ k3 =>
             have H := HA.out
             clear HA
             simp only [r13_Urges.l1] at H
             by_cases c21 : x6_3 < (t331.length : Int)
             ·rw [if_pos c21] at H
              have c21b0 := dE_ c21
              clear c21
              by_cases c22 : 0 ≤ x6_3
              ·rw [if_pos c22] at H
               have c22b0 := dE_ c22
               clear c22
               by_cases c23 : ((q51 t331 x6_3).f0) = x5_1
               ·rw [if_pos c23] at H
                have c23b0 := bH_ c23
                have c23b1 := bF_ c23
                clear c23
                by_cases c24 : 0 ≤ x5_1
                ·rw [if_pos c24] at H
                 have c24b0 := dE_ c24
                 clear c24
                 by_cases c25 : x5_1 < (x3_3.length : Int)
                 ·rw [if_pos c25] at H
                  have c25b0 := dE_ c25
                  clear c25
                  by_cases c26 : 0 ≤ ((q51 t331 x6_3).f1)
                  ·rw [if_pos c26] at H
                   have c26b0 := dE_ c26
                   clear c26
                   by_cases c27 : ((q51 t331 x6_3).f1) < (x3_3.length : Int)
                   ·rw [if_pos c27] at H
                    have c27b0 := dE_ c27
                    clear c27
                    obtain ⟨ji28, hji28⟩ : ∃ j_ : Int, (mn (rd x3_3 x5_1) (rd x3_3 ((q51 t331 x6_3).f1))) = j_ := ⟨_, rfl⟩
                    replace H : (r13_Urges.l1 k3 l0 (x3_3.set (x5_1 : Int).toNat (ji28)) t331 x5_1 (wrap64 (x6_3 + 1))) = some r := by first | (rw [hji28] at H; exact H) | (simp only [hji28] at H ⊢; exact H)
                    have hji28_ : (if (rd x3_3 ((q51 t331 x6_3).f1)) < (rd x3_3 x5_1) then (rd x3_3 ((q51 t331 x6_3).f1)) else (rd x3_3 x5_1)) = ji28 := hji28
                    obtain ⟨y342, hy342⟩ : ∃ y_ : List Int, y_ = (x3_3.set (x5_1 : Int).toNat (ji28)) := ⟨_, rfl⟩
                    replace H : (r13_Urges.l1 k3 l0 y342 t331 x5_1 (wrap64 (x6_3 + 1))) = some r := by first | (rw [hy342]; with_reducible exact H) | (have H2_ := (Option.bind_some _ _).symm.trans H; rw [hy342]; with_reducible exact H2_) | (have H2_ := (Option.bind_some _ _).symm.trans H; with_reducible exact H2_) | with_reducible exact H | (rw [hy342]; exact H) | exact H
                    have Ny342 := aM_ hy342
                    clear hy342
                    replace H := aM_ H
                    obtain ⟨Ao30, co30, eo30⟩ := Kd.R_slice HO_4.out
                    subst eo30
                    have p338 : 0 ≤ (x6_3 : Int) := oD_
                    have q338 : x6_3 < (t331.length : Int) := oD_
                    obtain ⟨ad338, e338, hx338_0, hx338_1, hx338_2⟩ := at_T51 (Kd.R_reads' HO_4.out).2.2 x6_3 p338 q338
                    cases e338
                    replace p338 := eq_true p338
                    replace q338 := eq_true q338
                    try go_wp2
                    replace HO_3 := aM_ (Kd.R_drew HO_3.out)
                    replace HO_4 := aM_ (Kd.R_drew HO_4.out)
                    replace HB := aM_ (b1_ HB.out)
                    have p339 : 0 ≤ (x5_1 : Int) := oD_
                    have q339 : x5_1 < (x3_3.length : Int) := oD_
                    obtain ⟨ad339, e339, hx339_0⟩ := Kd.at_int (Kd.R_reads' HO_3.out).2.2 x5_1 p339 q339
                    obtain rfl : (⟨go11, 0, none⟩ : Addr) = ad339 := (by injection e339)
                    (first | simp only [add_plain] at hx339_0 | simp only [add_at] at hx339_0 | simp only [Addr.add, Nat.zero_add] at hx339_0 | skip)
                    replace p339 := eq_true p339
                    replace q339 := eq_true q339
                    have p340 : 0 ≤ (x6_3 : Int) := oD_
                    have q340 : x6_3 < (t331.length : Int) := oD_
                    obtain ⟨ad340, e340, hx340_0, hx340_1, hx340_2⟩ := at_T51 (Kd.R_reads' HO_4.out).2.2 x6_3 p340 q340
                    obtain rfl : ad338 = ad340 := (by injection e340)
                    replace p340 := eq_true p340
                    replace q340 := eq_true q340
                    have p341 : 0 ≤ (((q51 t331 x6_3).f1) : Int) := oD_
                    have q341 : ((q51 t331 x6_3).f1) < (x3_3.length : Int) := oD_
                    obtain ⟨ad341, e341, hx341_0⟩ := Kd.at_int (Kd.R_reads' HO_3.out).2.2 ((q51 t331 x6_3).f1) p341 q341
                    obtain rfl : (⟨go11, 0, none⟩ : Addr) = ad341 := (by injection e341)
                    (first | simp only [add_plain] at hx341_0 | simp only [add_at] at hx341_0 | simp only [Addr.add, Nat.zero_add] at hx341_0 | skip)
                    replace p341 := eq_true p341
                    replace q341 := eq_true q341
                    have p29 : 0 ≤ (x5_1 : Int) := oD_
                    have q29 : (x5_1 : Int) < ((x3_3.length : Int) : Int) := oD_
                    obtain ⟨hx29_0, hf29_0⟩ := Kd.R_celln 0 HO_3.out (x5_1 : Int) p29 q29
                    replace p29 := eq_true p29
                    replace q29 := eq_true q29
                    have HP32 := Kd.R_putn HO_3.out (x5_1 : Int) ji28
                    rw [← Ny342.out] at HP32
                    have HQ32 := aM_ HP32
                    clear HP32
                    refine start_ (n := 17) (S := fun w' => w'.cell? ⟨go11, (x5_1).toNat, none⟩ = some (.int .i64 (rd x3_3 x5_1)) ∧ w'.cell? (ad338.add ((x6_3).toNat * 3)) = some (.int .i64 ((q51 t331 x6_3).f0)) ∧ w'.cell? ⟨(ad338.add ((x6_3).toNat * 3)).block, (ad338.add ((x6_3).toNat * 3)).off + 1, none⟩ = some (.int .i64 ((q51 t331 x6_3).f1)) ∧ w'.cell? ⟨(ad338.add ((x6_3).toNat * 3)).block, (ad338.add ((x6_3).toNat * 3)).off + 2, none⟩ = some (.int .i64 ((q51 t331 x6_3).f2)) ∧ w'.cell? ⟨go11, (((q51 t331 x6_3).f1)).toNat, none⟩ = some (.int .i64 (rd x3_3 ((q51 t331 x6_3).f1)))) (ds := [16]) (bm 17 0) (by kernel_rfl) rfl (by kernel_rfl) ⟨hx339_0, hx340_0, hx340_1, hx340_2, hx341_0⟩ (fun hHeld => ?_); refine with_tabW r13_Urges.tab13 r13_Urges.bits13 (fun HT_ HW_ => ?_)
                    generalize wr.drew = w31 at HO_3 HO_4 HB HQ32 hf29_0 hx29_0 hx339_0 hx340_0 hx340_1 hx340_2 hx341_0 hHeld ⊢
                    refine seq_ (k := 1) [(0, some 47, false), (1, some 48, false), (2, some 49, false), (3, some 50, false), (4, some 51, false), (6, some 53, false), (7, some 54, false), (8, some 55, false), (9, some 56, false), (10, some 57, false), (5, some 52, true), (11, some 58, true), (12, some 59, false), (13, some 60, true), (14, some 61, false), (15, some 62, false)] (bm 17 65535) rfl (seq_of HT_.out HW_.out (by kernel_rfl)) (fun _ _ _ _ _ h => h) hHeld ?_
                    repeat (first | (refine SeqOn.pure (v := ?_) (a' := ?_) rfl rfl (Or.inl ⟨by kernel_rfl, ?_⟩) ?_ ?_; rotate_left 2; (focus (intro w'; go_simp; with_reducible rfl)); (focus exact pU_)) | (refine SeqOn.take (v := ?_) (a' := ?_) rfl rfl (Or.inl ⟨by kernel_rfl, ?_⟩) ?_ ?_; rotate_left 2; (focus (rintro w' ⟨s0, s1, s2, s3, s4⟩; go_simp; with_reducible rfl)); (focus exact pU_)))
                    refine SeqOn.nil ?_
                    refine last_ (i := 16) (N := none) (bm 17 131071) rfl rfl (one_of HT_.out (by kernel_rfl)) (by decide) (fun K hK => ?_)
                    refine skip_ (w1 := ?_) (by rfl) rfl ?_ ?_
                    rotate_left
                    ·go_simp
                     rfl
                    refine hK.out _ _ ?_
                    clear hK K
                    refine done_ (done_of HT_.out (by kernel_rfl)) ?_
                    try go_wp2
                    (try simp only [← hl3_3])
                    obtain ⟨cl_, GG_⟩ : ∃ cells, w31.heap[go11]? = some (.cells cells 3 (0, 0)) := (by obtain ⟨inner_, ho_⟩ := Kd.R_own HO_3.out; exact own_typed ho_ go11 rfl)
                    go_roundg k3
                    case measure => have := HK1.out; have := HJ13.out; have := HK3.out; omega
                    case rel => exact ⟨(y342), (wrap64 (x6_3 + 1)), eQ_, H, ⟨by have := HK1.out; have := HJ13.out; have := HK3.out; omega⟩, ⟨by (try simp only [hl3_13]); (try simp only [hl3_3]); (with_reducible repeat (first | apply Kd.R_alloc | apply Kd.R_drewN | apply Kd.R_drew)); exact HQ32.out⟩, ⟨by (try simp only [hl3_13]); (try simp only [hl3_3]); (with_reducible repeat (first | apply Kd.R_alloc | apply Kd.R_drewN | apply Kd.R_drew)); exact Kd.R_mono (Kd.R_far (p := ⟨go11, (x5_1 : Int).toNat, none⟩) (Kd.R_types HO_4.out GG_ (by decide)) (fun _ hk => hk.2) (.int .i64 ji28)) (fun _ hk => trivial)⟩, ⟨bs_ HB GB11⟩⟩
                   rw [if_neg c27] at H
                   exact absurd H (by simp)
                  rw [if_neg c26] at H
                  exact absurd H (by simp)
                 rw [if_neg c25] at H
                 exact absurd H (by simp)
                rw [if_neg c24] at H
                exact absurd H (by simp)
               rw [if_neg c23] at H
               have c23b0 := bE_ c23
               have c23b1 := bG_ c23
               replace H := aM_ H
               obtain ⟨Ao33, co33, eo33⟩ := Kd.R_slice HO_4.out
               subst eo33
               have p338 : 0 ≤ (x6_3 : Int) := oD_
               have q338 : x6_3 < (t331.length : Int) := oD_
               obtain ⟨ad338, e338, hx338_0, hx338_1, hx338_2⟩ := at_T51 (Kd.R_reads' HO_4.out).2.2 x6_3 p338 q338
               cases e338
               replace p338 := eq_true p338
               replace q338 := eq_true q338
               go_wp2
               (try simp only [← hl3_3])
               go_roundg k3
               case measure => have := HK1.out; have := HJ13.out; have := HK3.out; omega
               case rel => exact ⟨(x3_3), (wrap64 (x6_3 + 1)), eQ_, H, ⟨by have := HK1.out; have := HJ13.out; have := HK3.out; omega⟩, ⟨by (try simp only [hl3_13]); (try simp only [hl3_3]); (with_reducible repeat (first | apply Kd.R_alloc | apply Kd.R_drewN | apply Kd.R_drew)); exact HO_3.out⟩, ⟨by (try simp only [hl3_13]); (try simp only [hl3_3]); (with_reducible repeat (first | apply Kd.R_alloc | apply Kd.R_drewN | apply Kd.R_drew)); exact HO_4.out⟩, ⟨bl_ HB⟩⟩
              rw [if_neg c22] at H
              exact absurd H (by simp)
             rw [if_neg c21] at H
             have c21b0 := dF_ c21
             clear c21
             replace H := aM_ H
             obtain ⟨Ao34, co34, eo34⟩ := Kd.R_slice HO_4.out
             subst eo34
             go_wp2
             (try simp only [← hl3_13, ← hl3_3])
             go_roundg k3
             case measure => have := HK1.out; have := HJ13.out; have := HK3.out; omega
             case rel => exact ⟨(x3_3), (wrap64 (x5_1 - 1)), eQ_, H, ⟨by have := HK1.out; have := HJ13.out; have := HK3.out; omega⟩, ⟨by (try simp only [hl3_13]); (try simp only [hl3_3]); (with_reducible repeat (first | apply Kd.R_alloc | apply Kd.R_drewN | apply Kd.R_drew)); exact HO_3.out⟩, ⟨by (try simp only [hl3_13]); (try simp only [hl3_3]); (with_reducible repeat (first | apply Kd.R_alloc | apply Kd.R_drewN | apply Kd.R_drew)); exact HO_4.out⟩, ⟨bl_ HB⟩⟩
        rw [if_neg c12] at H
        exact absurd H (by simp)
       rw [if_neg c10] at H
       exact absurd H (by simp)
      rw [if_neg c9] at H
      exact absurd H (by simp)
     rw [if_neg c8] at H
     have c8b0 := dF_ c8
     clear c8
     obtain rfl := oI_ H
     go_wp2
     go_ret
     exact ⟨_, eR_, rR_ HO_3, bl_ HB⟩
  rw [if_neg c3] at H
  exact absurd H (by simp)
 rw [if_neg c2] at H
 exact absurd H (by simp)
end
section
theorem rd_nat (h : List Int) (i : Nat) (hi : i < h.length) : rd h (i : Int) = h[i] := by
  unfold rd
  rw [Int.toNat_natCast, List.getD_eq_getElem?_getD, List.getElem?_eq_getElem hi]; rfl
theorem rd_set_same (h : List Int) (i : Nat) (v : Int) (hi : i < h.length) : rd (h.set i v) (i : Int) = v := by
  rw [rd_nat _ _ (by simpa using hi)]; simp
theorem rd_set_other (h : List Int) (i : Nat) (t : Int) (v : Int) (ht : 0 ≤ t) (hne : t ≠ i) : rd (h.set i v) t = rd h t := by
  obtain ⟨t, rfl⟩ := Int.eq_ofNat_of_zero_le ht
  unfold rd
  rw [Int.toNat_natCast, List.getD_eq_getElem?_getD, List.getD_eq_getElem?_getD, List.getElem?_set_ne (by omega)]
theorem edgesSeg_mem (l : List S24) (i : Nat) : ∀ (d j : Nat) (e : S51), e ∈ edgesSeg l i j d → e.f0 = (i : Int) ∧ ∃ t : Nat, e.f1 = (t : Int) ∧ j ≤ t ∧ t < j + d
  | 0, _, e, h => by simp [edgesSeg] at h
  | d + 1, j, e, h => by
    unfold edgesSeg at h
    rcases List.mem_append.1 h with h | h
    · split at h
      · rw [List.mem_singleton] at h; subst h; exact ⟨rfl, j, rfl, Nat.le_refl _, by omega⟩
      · simp at h
    · obtain ⟨h1, t, h2, h3, h4⟩ := edgesSeg_mem l i d (j + 1) e h
      exact ⟨h1, t, h2, by omega, by omega⟩
theorem edgesFrom_mem (l : List S24) (i : Nat) (e : S51) (h : e ∈ edgesFrom l i) : e.f0 = (i : Int) ∧ ∃ t : Nat, e.f1 = (t : Int) ∧ i < t ∧ t < l.length := by
  obtain ⟨h1, t, h2, h3, h4⟩ := edgesSeg_mem l i _ _ e h
  exact ⟨h1, t, h2, by omega, by omega⟩
theorem edgesUp_filter (l : List S24) (i : Nat) : ∀ (d a : Nat), (edgesUp l a d).filter (fun e => e.f0 == (i : Int)) = if a ≤ i ∧ i < a + d then edgesFrom l i else []
  | 0, a => by rw [if_neg (by omega)]; rfl
  | d + 1, a => by
    rw [edgesUp_succ, List.filter_append, edgesUp_filter l i d (a + 1)]
    by_cases h : a = i
    · subst h
      rw [if_neg (by omega), if_pos (by omega), List.append_nil]
      apply List.filter_eq_self.2
      intro e he
      simp [(edgesFrom_mem l a e he).1]
    · have h1 : (edgesFrom l a).filter (fun e => e.f0 == (i : Int)) = [] := by
        apply List.filter_eq_nil_iff.2
        intro e he
        simp [(edgesFrom_mem l a e he).1]; omega
      rw [h1, List.nil_append]
      by_cases h2 : a + 1 ≤ i ∧ i < a + 1 + d
      · rw [if_pos h2, if_pos (by omega)]
      · rw [if_neg h2, if_neg (by omega)]
section
variable (m : Int → Int → Int) (val : S51 → Int → Int)
def gstep (h : List Int) (x : S51) : Option (List Int) :=
  if 0 ≤ x.f0 ∧ x.f0 < h.length ∧ 0 ≤ x.f1 ∧ x.f1 < h.length then some (h.set x.f0.toNat (m (rd h x.f0) (val x (rd h x.f1)))) else none
def gfold (h : List Int) (seg : List S51) (v : Int) : Int := seg.foldl (fun v e => m v (val e (rd h e.f1))) v
def gAt (init : List Int) (l : List S24) : Nat → List Int
  | 0 => init
  | d + 1 => (gAt init l d).set (l.length - (d + 1)) (gfold m val (gAt init l d) (edgesFrom l (l.length - (d + 1))) (rd (gAt init l d) ((l.length - (d + 1) : Nat) : Int)))
theorem gAt_succ (init : List Int) (l : List S24) (d : Nat) : gAt m val init l (d + 1) = (gAt m val init l d).set (l.length - (d + 1)) (gfold m val (gAt m val init l d) (edgesFrom l (l.length - (d + 1))) (rd (gAt m val init l d) ((l.length - (d + 1) : Nat) : Int))) := rfl
theorem gAt_len (init : List Int) (l : List S24) : ∀ d, (gAt m val init l d).length = init.length
  | 0 => rfl
  | d + 1 => by simp [gAt, gAt_len init l d]
theorem gAt_below (init : List Int) (l : List S24) : ∀ (d t : Nat), t + d < l.length → rd (gAt m val init l d) (t : Int) = rd init (t : Int)
  | 0, t, h => rfl
  | d + 1, t, h => by
    unfold gAt
    rw [rd_set_other _ _ _ _ (by omega) (by omega), gAt_below init l d t (by omega)]
theorem gfold_congr (h h' : List Int) : ∀ (seg : List S51) (v : Int), (∀ e ∈ seg, rd h e.f1 = rd h' e.f1) → gfold m val h seg v = gfold m val h' seg v
  | [], v, _ => rfl
  | e :: seg, v, he => by
    unfold gfold
    rw [List.foldl_cons, List.foldl_cons, he e List.mem_cons_self]
    exact gfold_congr h h' seg _ (fun e h => he e (List.mem_cons_of_mem _ h))
variable {m}
theorem gfold_push (hc : ∀ a b, m a b = m b a) (ha : ∀ a b c, m (m a b) c = m a (m b c)) (h : List Int) : ∀ (seg : List S51) (v a : Int), gfold m val h seg (m v a) = m (gfold m val h seg v) a
  | [], v, a => rfl
  | e :: seg, v, a => by
    unfold gfold
    rw [List.foldl_cons, List.foldl_cons]
    have := gfold_push hc ha h seg (m v (val e (rd h e.f1))) a
    unfold gfold at this
    rw [← this]
    congr 1
    rw [ha, hc a, ← ha]
theorem gfold_rev (hc : ∀ a b, m a b = m b a) (ha : ∀ a b c, m (m a b) c = m a (m b c)) (h : List Int) : ∀ (seg : List S51) (v : Int), gfold m val h seg.reverse v = gfold m val h seg v
  | [], v => rfl
  | e :: seg, v => by
    have h1 := gfold_rev hc ha h seg v
    have h2 := gfold_push val hc ha h seg v (val e (rd h e.f1))
    unfold gfold at *
    rw [List.reverse_cons, List.foldl_append, List.foldl_cons, h1, List.foldl_cons, h2]
    rfl
theorem group_steps (i : Nat) : ∀ (seg : List S51) (h : List Int), i < h.length → (∀ e ∈ seg, e.f0 = (i : Int) ∧ ∃ t : Nat, e.f1 = (t : Int) ∧ i < t ∧ t < h.length) →
    seg.foldlM (gstep m val) h = some (h.set i (gfold m val h seg (rd h (i : Int))))
  | [], h, hi, _ => by
    simp only [List.foldlM_nil]
    unfold gfold
    simp only [List.foldl_nil]
    rw [rd_nat _ _ hi, List.set_getElem_self]; rfl
  | e :: seg, h, hi, he => by
    obtain ⟨e0, t, e1, h1, h2⟩ := he e List.mem_cons_self
    have hs : gstep m val h e = some (h.set i (m (rd h (i : Int)) (val e (rd h e.f1)))) := by
      unfold gstep
      rw [e0, if_pos ⟨by omega, by omega, by omega, by omega⟩, Int.toNat_natCast]
    rw [List.foldlM_cons, hs]
    show List.foldlM (gstep m val) _ seg = _
    rw [group_steps i seg _ (by simpa using hi) (fun e' h' => by
      obtain ⟨a, b, c, d, f⟩ := he e' (List.mem_cons_of_mem _ h')
      exact ⟨a, b, c, d, by simpa using f⟩)]
    rw [List.set_set, rd_set_same _ _ _ hi]
    congr 2
    unfold gfold
    rw [List.foldl_cons]
    exact gfold_congr m val _ h seg _ (fun e' h' => by
      obtain ⟨a, b, c, d, f⟩ := he e' (List.mem_cons_of_mem _ h')
      exact rd_set_other _ _ _ _ (by omega) (by omega))
theorem back_steps (hc : ∀ a b, m a b = m b a) (ha : ∀ a b c, m (m a b) c = m a (m b c)) (init : List Int) (l : List S24) (hl : init.length = l.length) : ∀ (d i : Nat), i + d = l.length → (edgesUp l i d).reverse.foldlM (gstep m val) init = some (gAt m val init l d)
  | 0, i, _ => rfl
  | d + 1, i, hi => by
    rw [edgesUp_succ, List.reverse_append, List.foldlM_append, back_steps hc ha init l hl d (i + 1) (by omega)]
    show (edgesFrom l i).reverse.foldlM (gstep m val) (gAt m val init l d) = _
    have hg := gAt_len m val init l d
    rw [group_steps val i _ _ (by omega) (fun e he => by
      obtain ⟨h0, t, h1, h2, h3⟩ := edgesFrom_mem l i e (List.mem_reverse.1 he)
      exact ⟨h0, t, h1, h2, by omega⟩), gfold_rev val hc ha]
    rw [gAt_succ, show l.length - (d + 1) = i by omega]
end
theorem mx_max (a b : Int) : mx a b = max a b := by unfold mx; rw [Int.max_def]; split <;> split <;> omega
theorem mn_min (a b : Int) : mn a b = min a b := by unfold mn; rw [Int.min_def]; split <;> split <;> omega
def hval (e : S51) (x : Int) : Int := wrap64 (e.f2 + x)
def uval (_ : S51) (x : Int) : Int := x
theorem high_step : dag_High.step = gstep max hval := rfl
theorem urge_step : dag_Urge.step = gstep min uval := rfl
def lates (l : List S24) : List Int := l.map (fun x => lateOp x.f0)
def firsts (n : Nat) : Nat → List S24 → List Int
  | _, [] => []
  | i, x :: xs => (if effOp x.f0 = true then (i : Int) else (n : Int)) :: firsts n (i + 1) xs
def heights (l : List S24) : List Int := gAt max hval (lates l) l l.length
def urges (l : List S24) : List Int := gAt min uval (firsts l.length 0 l) l l.length
def okA (l : List S24) : Prop := ∀ x ∈ l, okI x = true
theorem okA_L {l : List S24} (h : okA l) : okL l := fun i hi => by rw [rd_at l i hi]; exact h _ (List.getElem_mem hi)
theorem high_init {k : Nat} (hk : 5 ≤ k) : ∀ l, okA l → dag_High.init k l = some (lates l)
  | [], _ => rfl
  | x :: xs, h => by
    have hx := okI_op (h x List.mem_cons_self)
    unfold dag_High.init lates
    rw [late_eq hk _ hx.1 hx.2, high_init hk xs (fun y hy => h y (List.mem_cons_of_mem _ hy))]
    rfl
theorem urge_init {k : Nat} (hk : 5 ≤ k) (n : Nat) : ∀ i l, okA l → dag_Urge.init k n i l = some (firsts n i l)
  | _, [], _ => rfl
  | i, x :: xs, h => by
    have hx := okI_op (h x List.mem_cons_self)
    unfold dag_Urge.init firsts
    rw [eff_eq hk _ hx.1 hx.2, urge_init hk n (i + 1) xs (fun y hy => h y (List.mem_cons_of_mem _ hy))]
    rfl
theorem firsts_len (n : Nat) : ∀ i l, (firsts n i l).length = l.length
  | _, [] => rfl
  | i, x :: xs => by simp [firsts, firsts_len n (i + 1) xs]
theorem high_eq {k : Nat} (hk : 5 ≤ k) (l : List S24) (hl : l.length ≤ 200) (h : okA l) : dag_High.f k l (edges l) = some (heights l) := by
  unfold dag_High.f heights edges
  rw [if_pos (by omega), high_init hk l h, high_step]
  exact back_steps hval (fun a b => Int.max_comm a b) (fun a b c => Int.max_assoc a b c) (lates l) l (by simp [lates]) l.length 0 (by omega)
theorem urge_eq {k : Nat} (hk : 5 ≤ k) (l : List S24) (hl : l.length ≤ 200) (h : okA l) : dag_Urge.f k l (edges l) = some (urges l) := by
  unfold dag_Urge.f urges edges
  rw [if_pos (by omega), urge_init hk _ 0 l h, urge_step]
  exact back_steps uval (fun a b => Int.min_comm a b) (fun a b c => Int.min_assoc a b c) (firsts l.length 0 l) l (firsts_len _ _ _) l.length 0 (by omega)
theorem rd51_at (E : List S51) (i : Nat) (h : i < E.length) : q51 E (i : Int) = E[i] := by
  unfold q51
  rw [Int.toNat_natCast, List.getD_eq_getElem?_getD, List.getElem?_eq_getElem h]; rfl
theorem set_rd (h : List Int) (i : Nat) (hi : i < h.length) : h.set i (rd h (i : Int)) = h := by
  rw [rd_nat _ _ hi, List.set_getElem_self]
theorem gfold_step {m : Int → Int → Int} {val : S51 → Int → Int} (h : List Int) (i : Nat) (e : S51) (seg : List S51) (hi : i < h.length) (he : ∀ e ∈ seg, ∃ t : Nat, e.f1 = (t : Int) ∧ i < t) :
    (h.set i (m (rd h (i : Int)) (val e (rd h e.f1)))).set i (gfold m val (h.set i (m (rd h (i : Int)) (val e (rd h e.f1)))) seg (rd (h.set i (m (rd h (i : Int)) (val e (rd h e.f1)))) (i : Int))) = h.set i (gfold m val h (e :: seg) (rd h (i : Int))) := by
  rw [List.set_set, rd_set_same _ _ _ hi]
  congr 1
  unfold gfold
  rw [List.foldl_cons]
  exact gfold_congr m val _ h seg _ (fun e' h' => by
    obtain ⟨t, a, b⟩ := he e' h'
    exact rd_set_other _ _ _ _ (by omega) (by omega))
theorem wrap_down (i : Nat) (h : i ≤ 1000000) : wrap64 ((i : Int) - 1) = (i : Int) - 1 := by unfold wrap64; omega
theorem href_l1 (l : List S24) (E : List S51) (hE : E.length ≤ 1000000) (i : Nat) (hi : i < l.length) (hn : l.length ≤ 200) (hr : ∀ e ∈ E, e.f0 = (i : Int) → ∃ t : Nat, e.f1 = (t : Int) ∧ i < t ∧ t < l.length) : ∀ (d k q : Nat) (h : List Int), q + d = E.length → h.length = l.length →
    r13_Heights.l1 (k + d + 1) l h E (i : Int) (q : Int) = r13_Heights.l0 k l (h.set i (gfold max hval h ((E.drop q).filter (fun e => e.f0 == (i : Int))) (rd h (i : Int)))) E ((i : Int) - 1)
  | 0, k, q, h, hq, hl => by
    unfold r13_Heights.l1
    rw [if_neg (by omega), List.drop_of_length_le (by omega), wrap_down i (by omega)]
    unfold gfold
    rw [List.filter_nil, List.foldl_nil, set_rd _ _ (by omega)]
  | d + 1, k, q, h, hq, hl => by
    have hlt : q < E.length := by omega
    rw [show k + (d + 1) + 1 = (k + d + 1) + 1 by omega]
    unfold r13_Heights.l1
    rw [if_pos (by omega), if_pos (by omega), rd51_at E q hlt, wrap_at (by omega), List.drop_eq_getElem_cons hlt]
    by_cases h0 : E[q].f0 = (i : Int)
    · obtain ⟨t, ht, ht1, ht2⟩ := hr E[q] (List.getElem_mem hlt) h0
      rw [if_pos h0, if_pos (by omega), if_pos (by omega), if_pos (by omega), if_pos (by omega), Int.toNat_natCast, href_l1 l E hE i hi hn hr d k (q + 1) _ (by omega) (by simpa using hl), List.filter_cons_of_pos (by simpa using h0), mx_max]
      exact congrArg (fun z => r13_Heights.l0 k l z E ((i : Int) - 1)) (gfold_step (m := max) (val := hval) h i E[q] _ (by omega) (fun e he => by
        obtain ⟨h1, h2⟩ := List.mem_filter.1 he
        obtain ⟨t, a, b, c⟩ := hr e (List.mem_of_mem_drop h1) (by simpa using h2)
        exact ⟨t, a, b⟩))
    · rw [if_neg h0, href_l1 l E hE i hi hn hr d k (q + 1) h (by omega) hl, List.filter_cons_of_neg (by simpa using h0)]
theorem edges_len (l : List S24) : ∀ (d i : Nat), (edgesUp l i d).length ≤ d * l.length
  | 0, i => by simp [edgesUp]
  | d + 1, i => by
    have := edges_len l d (i + 1)
    have h2 := edgesSeg_len l i (l.length - (i + 1)) (i + 1)
    rw [edgesUp_succ, Nat.succ_mul]
    unfold edgesFrom
    rw [List.length_append]
    omega
theorem edges_range (l : List S24) : ∀ (d a : Nat) (e : S51), e ∈ edgesUp l a d → ∃ i t : Nat, e.f0 = (i : Int) ∧ e.f1 = (t : Int) ∧ i < t ∧ t < l.length
  | 0, a, e, h => by simp [edgesUp] at h
  | d + 1, a, e, h => by
    rw [edgesUp_succ] at h
    rcases List.mem_append.1 h with h | h
    · obtain ⟨h1, t, h2, h3, h4⟩ := edgesFrom_mem l a e h
      exact ⟨a, t, h1, h2, h3, h4⟩
    · exact edges_range l d (a + 1) e h
theorem lates_at (l : List S24) (i : Nat) (hi : i < l.length) : rd (lates l) (i : Int) = lateOp (q24 l i).f0 := by
  rw [rd_nat _ _ (by simpa [lates] using hi), rd_at l i hi]
  simp [lates]
theorem firsts_at (n : Nat) : ∀ (a : Nat) (l : List S24) (i : Nat), i < l.length → rd (firsts n a l) (i : Int) = if effOp (q24 l i).f0 = true then ((a + i : Nat) : Int) else (n : Int)
  | a, [], i, h => absurd h (Nat.not_lt_zero _)
  | a, x :: xs, 0, h => by simp [firsts, rd, q24]
  | a, x :: xs, i + 1, h => by
    have ih := firsts_at n (a + 1) xs i (by simpa using h)
    rw [show a + 1 + i = a + (i + 1) by omega] at ih
    have e1 : rd (firsts n a (x :: xs)) ((i + 1 : Nat) : Int) = rd (firsts n (a + 1) xs) (i : Int) := by
      simp [firsts, rd]
    have e2 : q24 (x :: xs) ((i + 1 : Nat) : Int) = q24 xs (i : Int) := by simp [q24]
    rw [e1, e2, ih]
theorem same_from {m : Int → Int → Int} {val : S51 → Int → Int} (l : List S24) (h G : List Int) (i : Nat) (v : Int) (hi : i < l.length) (hl : h.length = l.length) (hG : G.length = l.length) (ha : ∀ t : Nat, i < t → t < l.length → rd h (t : Int) = rd G (t : Int)) (hv : v = rd G (i : Int)) :
    ∀ t : Nat, i ≤ t → t < l.length → rd ((h.set i v).set i (gfold m val (h.set i v) (edgesFrom l i) (rd (h.set i v) (i : Int)))) (t : Int) = rd (G.set i (gfold m val G (edgesFrom l i) (rd G (i : Int)))) (t : Int) := by
  intro t h1 h2
  rw [List.set_set, rd_set_same _ _ _ (by omega)]
  by_cases e : t = i
  · subst e
    rw [rd_set_same _ _ _ (by omega), rd_set_same _ _ _ (by omega), hv]
    exact gfold_congr m val _ G _ _ (fun e he => by
      obtain ⟨_, u, hu, hu1, hu2⟩ := edgesFrom_mem l t e he
      rw [rd_set_other _ _ _ _ (by omega) (by omega), hu]
      exact ha u hu1 hu2)
  · rw [rd_set_other _ _ _ _ (by omega) (by omega), rd_set_other _ _ _ _ (by omega) (by omega)]
    exact ha t (by omega) h2
theorem ext_rd (h G : List Int) (n : Nat) (hl : h.length = n) (hG : G.length = n) (ha : ∀ t : Nat, t < n → rd h (t : Int) = rd G (t : Int)) : h = G := by
  apply List.ext_getElem (by omega)
  intro t h1 h2
  have := ha t (by omega)
  rwa [rd_nat _ _ h1, rd_nat _ _ h2] at this
theorem href_l0 (l : List S24) (hn : l.length ≤ 200) (ho : okA l) (F : Nat) (hF : F = (edges l).length + 3) : ∀ (i k : Nat) (h : List Int), i ≤ l.length → 10 + i * F ≤ k → h.length = l.length → (∀ t : Nat, i ≤ t → t < l.length → rd h (t : Int) = rd (gAt max hval (lates l) l (l.length - i)) (t : Int)) →
    r13_Heights.l0 k l h (edges l) ((i : Int) - 1) = some (heights l)
  | 0, k, h, hi, hk, hl, ha => by
    obtain ⟨k, rfl⟩ : ∃ k', k = k' + 1 := ⟨k - 1, by omega⟩
    unfold r13_Heights.l0
    rw [if_neg (by omega)]
    congr 1
    exact ext_rd h _ l.length hl (by rw [heights, gAt_len]; simp [lates]) (fun t ht => ha t (by omega) ht)
  | i + 1, k, h, hi, hk, hl, ha => by
    have e2 : (i + 1) * F = i * F + F := Nat.succ_mul _ _
    have hlen : (edges l).length ≤ 40000 := Nat.le_trans (edges_len l l.length 0) (Nat.mul_le_mul hn hn)
    obtain ⟨k, rfl⟩ : ∃ k', k = (k' + (edges l).length + 1) + 1 := ⟨k - (edges l).length - 2, by omega⟩
    have hop := okI_op (okA_L ho i (by omega))
    unfold r13_Heights.l0
    rw [show (((i + 1 : Nat) : Int) - 1) = (i : Int) by omega, if_pos (by omega), if_pos (by omega), if_pos (by omega), rlate_eq (by omega) _ hop.1 hop.2]
    simp only [Option.bind_some, Int.toNat_natCast]
    rw [if_pos (by omega)]
    have h1 := href_l1 l (edges l) (by omega) i (by omega) hn (fun e he h0 => by
      obtain ⟨a, t, ea, et, h3, h4⟩ := edges_range l _ _ e he
      exact ⟨t, et, by omega, h4⟩) (edges l).length k 0 (h.set i (lateOp (q24 l i).f0)) (by omega) (by simpa using hl)
    rw [show ((0 : Nat) : Int) = 0 from rfl, List.drop_zero] at h1
    rw [h1]
    have hf : (edges l).filter (fun e => e.f0 == (i : Int)) = edgesFrom l i := by
      unfold edges
      rw [edgesUp_filter, if_pos (by omega)]
    rw [hf]
    have hg := gAt_len max hval (lates l) l (l.length - (i + 1))
    have hla : (lates l).length = l.length := by simp [lates]
    refine href_l0 l hn ho F hF i k _ (by omega) (by omega) (by simpa using hl) ?_
    rw [show l.length - i = (l.length - (i + 1)) + 1 by omega, gAt_succ, show l.length - (l.length - (i + 1) + 1) = i by omega]
    exact same_from l h _ i _ (by omega) hl (by omega) (fun t h1 h2 => ha t (by omega) h2) (by rw [gAt_below max hval (lates l) l _ i (by omega), lates_at l i (by omega)])
theorem rheights_eq {k : Nat} (hk : 10000000 ≤ k) (l : List S24) (hn : l.length ≤ 200) (ho : okA l) : r13_Heights.f k l = some (heights l) := by
  have hlen : (edges l).length ≤ 40000 := Nat.le_trans (edges_len l l.length 0) (Nat.mul_le_mul hn hn)
  have hm : l.length * ((edges l).length + 3) ≤ 200 * 40003 := Nat.mul_le_mul hn (by omega)
  unfold r13_Heights.f
  rw [if_pos (by omega), if_pos (by omega), ref_edges l hn (okA_L ho) (by omega)]
  simp only [Option.bind_some, Int.toNat_natCast]
  rw [wrap_down _ (by omega)]
  exact href_l0 l hn ho _ rfl l.length k _ (by omega) (by omega) (by simp) (fun t h1 h2 => absurd h2 (by omega))
theorem uref_l1 (l : List S24) (E : List S51) (hE : E.length ≤ 1000000) (i : Nat) (hi : i < l.length) (hn : l.length ≤ 200) (hr : ∀ e ∈ E, e.f0 = (i : Int) → ∃ t : Nat, e.f1 = (t : Int) ∧ i < t ∧ t < l.length) : ∀ (d k q : Nat) (h : List Int), q + d = E.length → h.length = l.length →
    r13_Urges.l1 (k + d + 1) l h E (i : Int) (q : Int) = r13_Urges.l0 k l (h.set i (gfold min uval h ((E.drop q).filter (fun e => e.f0 == (i : Int))) (rd h (i : Int)))) E ((i : Int) - 1)
  | 0, k, q, h, hq, hl => by
    unfold r13_Urges.l1
    rw [if_neg (by omega), List.drop_of_length_le (by omega), wrap_down i (by omega)]
    unfold gfold
    rw [List.filter_nil, List.foldl_nil, set_rd _ _ (by omega)]
  | d + 1, k, q, h, hq, hl => by
    have hlt : q < E.length := by omega
    rw [show k + (d + 1) + 1 = (k + d + 1) + 1 by omega]
    unfold r13_Urges.l1
    rw [if_pos (by omega), if_pos (by omega), rd51_at E q hlt, wrap_at (by omega), List.drop_eq_getElem_cons hlt]
    by_cases h0 : E[q].f0 = (i : Int)
    · obtain ⟨t, ht, ht1, ht2⟩ := hr E[q] (List.getElem_mem hlt) h0
      rw [if_pos h0, if_pos (by omega), if_pos (by omega), if_pos (by omega), if_pos (by omega), Int.toNat_natCast, uref_l1 l E hE i hi hn hr d k (q + 1) _ (by omega) (by simpa using hl), List.filter_cons_of_pos (by simpa using h0), mn_min]
      exact congrArg (fun z => r13_Urges.l0 k l z E ((i : Int) - 1)) (gfold_step (m := min) (val := uval) h i E[q] _ (by omega) (fun e he => by
        obtain ⟨h1, h2⟩ := List.mem_filter.1 he
        obtain ⟨t, a, b, c⟩ := hr e (List.mem_of_mem_drop h1) (by simpa using h2)
        exact ⟨t, a, b⟩))
    · rw [if_neg h0, uref_l1 l E hE i hi hn hr d k (q + 1) h (by omega) hl, List.filter_cons_of_neg (by simpa using h0)]
theorem uref_l0 (l : List S24) (hn : l.length ≤ 200) (ho : okA l) (F : Nat) (hF : F = (edges l).length + 4) : ∀ (i k : Nat) (h : List Int), i ≤ l.length → 10 + i * F ≤ k → h.length = l.length → (∀ t : Nat, i ≤ t → t < l.length → rd h (t : Int) = rd (gAt min uval (firsts l.length 0 l) l (l.length - i)) (t : Int)) →
    r13_Urges.l0 k l h (edges l) ((i : Int) - 1) = some (urges l)
  | 0, k, h, hi, hk, hl, ha => by
    obtain ⟨k, rfl⟩ : ∃ k', k = k' + 1 := ⟨k - 1, by omega⟩
    unfold r13_Urges.l0
    rw [if_neg (by omega)]
    congr 1
    exact ext_rd h _ l.length hl (by rw [urges, gAt_len]; exact firsts_len _ _ _) (fun t ht => ha t (by omega) ht)
  | i + 1, k, h, hi, hk, hl, ha => by
    have e2 : (i + 1) * F = i * F + F := Nat.succ_mul _ _
    have hlen : (edges l).length ≤ 40000 := Nat.le_trans (edges_len l l.length 0) (Nat.mul_le_mul hn hn)
    obtain ⟨k, rfl⟩ : ∃ k', k = ((k' + (edges l).length + 1) + 1) + 1 := ⟨k - (edges l).length - 3, by omega⟩
    have hop := okI_op (okA_L ho i (by omega))
    unfold r13_Urges.l0
    rw [show (((i + 1 : Nat) : Int) - 1) = (i : Int) by omega, if_pos (by omega), if_pos (by omega), if_pos (by omega)]
    simp only [Option.bind_some, Int.toNat_natCast]
    rw [if_pos (by omega), reff_eq _ hop.1 hop.2]
    simp only [Option.bind_some, List.set_set]
    have hf : (edges l).filter (fun e => e.f0 == (i : Int)) = edgesFrom l i := by
      unfold edges
      rw [edgesUp_filter, if_pos (by omega)]
    have hla : (firsts l.length 0 l).length = l.length := firsts_len _ _ _
    have hg := gAt_len min uval (firsts l.length 0 l) l (l.length - (i + 1))
    have key : ∀ v : Int, v = (if effOp (q24 l i).f0 = true then (i : Int) else (l.length : Int)) → r13_Urges.j1 (k + (edges l).length + 1 + 1) l (h.set i v) (edges l) (i : Int) = some (urges l) := by
      intro v hv
      unfold r13_Urges.j1
      have h1 := uref_l1 l (edges l) (by omega) i (by omega) hn (fun e he h0 => by
        obtain ⟨a, t, ea, et, h3, h4⟩ := edges_range l _ _ e he
        exact ⟨t, et, by omega, h4⟩) (edges l).length k 0 (h.set i v) (by omega) (by simpa using hl)
      rw [show ((0 : Nat) : Int) = 0 from rfl, List.drop_zero] at h1
      rw [h1, hf]
      refine uref_l0 l hn ho F hF i k _ (by omega) (by omega) (by simpa using hl) ?_
      rw [show l.length - i = (l.length - (i + 1)) + 1 by omega, gAt_succ, show l.length - (l.length - (i + 1) + 1) = i by omega]
      exact same_from l h _ i _ (by omega) hl (by omega) (fun t h1 h2 => ha t (by omega) h2) (by rw [gAt_below min uval (firsts l.length 0 l) l _ i (by omega), firsts_at _ 0 l i (by omega), hv, Nat.zero_add])
    cases he : effOp (q24 l i).f0 with
    | true =>
      rw [if_pos rfl]
      exact key _ (by rw [he]; rfl)
    | false =>
      rw [if_neg (by decide)]
      exact key _ (by rw [he]; rfl)
theorem rurges_eq {k : Nat} (hk : 10000000 ≤ k) (l : List S24) (hn : l.length ≤ 200) (ho : okA l) : r13_Urges.f k l = some (urges l) := by
  have hlen : (edges l).length ≤ 40000 := Nat.le_trans (edges_len l l.length 0) (Nat.mul_le_mul hn hn)
  have hm : l.length * ((edges l).length + 4) ≤ 200 * 40004 := Nat.mul_le_mul hn (by omega)
  unfold r13_Urges.f
  rw [if_pos (by omega), if_pos (by omega), ref_edges l hn (okA_L ho) (by omega)]
  simp only [Option.bind_some, Int.toNat_natCast]
  rw [wrap_down _ (by omega)]
  exact uref_l0 l hn ho _ rfl l.length k _ (by omega) (by omega) (by simp) (fun t h1 h2 => absurd h2 (by omega))
end
section
section
variable (m : Int → Int → Int) (val : S51 → Int → Int)
end
theorem heights_len (l : List S24) : (heights l).length = l.length := by rw [heights, gAt_len]; simp [lates]
theorem urges_len (l : List S24) : (urges l).length = l.length := by rw [urges, gAt_len, firsts_len]
theorem edges_from (l : List S24) (e : S51) (he : e ∈ edges l) (i : Nat) (h0 : e.f0 = (i : Int)) : e ∈ edgesFrom l i := by
  have hf := edgesUp_filter l i l.length 0
  obtain ⟨a, t, h1, h2, h3, h4⟩ := edges_range l l.length 0 e he
  have : i < l.length := by omega
  rw [if_pos ⟨by omega, by omega⟩] at hf
  rw [← hf, List.mem_filter]
  exact ⟨he, by simpa using h0⟩
theorem late_range (op : Int) : 1 ≤ lateOp op ∧ lateOp op ≤ 4 := by unfold lateOp; split <;> (try split) <;> (try split) <;> omega
theorem dist_le (x y : S24) : dist x y ≤ 4 := by
  have := late_range x.f0
  unfold dist
  simp only [mx_max]
  split <;> split <;> (try split) <;> omega
theorem edgesSeg_dist (l : List S24) (i : Nat) : ∀ (d j : Nat) (e : S51), e ∈ edgesSeg l i j d → 0 ≤ e.f2 ∧ e.f2 ≤ 4
  | 0, j, e, h => by simp [edgesSeg] at h
  | d + 1, j, e, h => by
    unfold edgesSeg at h
    rcases List.mem_append.1 h with h | h
    · split at h
      · rename_i hc
        simp only [List.mem_singleton] at h
        subst h
        exact ⟨hc, dist_le _ _⟩
      · simp at h
    · exact edgesSeg_dist l i d (j + 1) e h
theorem edges_dist (l : List S24) (e : S51) (he : e ∈ edges l) : 0 ≤ e.f2 ∧ e.f2 ≤ 4 := by
  obtain ⟨a, t, h1, _⟩ := edges_range l l.length 0 e he
  exact edgesSeg_dist l a _ _ e (edges_from l e he a h1)
end
end Go.Proofs.Ytibfkkjkahpobaa.PDag
