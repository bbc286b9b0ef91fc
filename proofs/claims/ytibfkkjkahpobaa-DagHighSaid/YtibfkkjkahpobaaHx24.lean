import Derived.Test.YtibfkkjkahpobaaHx15
import Derived.Test.YtibfkkjkahpobaaHx23
import Derived.Test.YtibfkkjkahpobaaHx21
set_option linter.unusedVariables false
set_option linter.unusedSimpArgs false
set_option maxHeartbeats 8000000
set_option maxRecDepth 100000
open Go.RowKit Go.Proofs.YtibfkkjkahpobaaW.PrintWords Go.Proofs.YtibfkkjkahpobaaW.PrintLast Go.Proofs.YtibfkkjkahpobaaW.PrintMore
namespace Go.Proofs.Ytibfkkjkahpobaa.PDag
section
attribute [local go_sem] max2_int min2_int max_two min_two max_three min_three max_four min_four
mutual
def r13_Straight.l0 : Nat → List (S24) → Int → Option (Bool)
  | 0, _, _ => none
  | k + 1, x0, x3 => if x3 < (x0.length : Int) then (r13_Straight.j1 k x0 x3 (decide (x3 ≤ 200))) else (r13_Straight.j1 k x0 x3 false)
def r13_Straight.j1 : Nat → List (S24) → Int → Bool → Option (Bool)
  | 0, _, _, _ => none
  | k + 1, x0, x3, x11 => if x11 = true then (if 0 ≤ x3 then (if x3 < (x0.length : Int) then ((r3_Ins.f k ((J24 x0 x3).f0) ((J24 x0 x3).f1) ((J24 x0 x3).f2) ((J24 x0 x3).f3) ((J24 x0 x3).f4) ((J24 x0 x3).f5)).bind fun t294 => (if t294 = true then (if ((J24 x0 x3).f0) = 0 then (r13_Straight.j2 k x0 x3 true) else ((r3_Ends.f ((J24 x0 x3).f0)).bind fun t297 => (r13_Straight.j2 k x0 x3 t297))) else (r13_Straight.j2 k x0 x3 true))) else (none)) else (none)) else (some (decide ((x0.length : Int) ≤ 200)))
def r13_Straight.j2 : Nat → List (S24) → Int → Bool → Option (Bool)
  | 0, _, _, _ => none
  | k + 1, x0, x3, x35 => if x35 = true then (some false) else (r13_Straight.l0 k x0 (wrap64 (x3 + 1)))
end
def r13_Straight.f (k : Nat) (l0 : List (S24)) : Option (Bool) := r13_Straight.l0 k l0 0
theorem r13_Straight.calls (k : Nat) (A0 : Option Addr) (c0 : Nat) (l0 : List (S24)) (r : Bool) (w : World) (hr0 : Kd.C k24 w A0 l0.length l0) (hc0 : l0.length ≤ c0) (h : r13_Straight.f k l0 = some r) :
    Calls Try.prog 32 #[.slice A0 l0.length c0] w fun e w' => e = .returned (.bool r) ∧ Below w.heap.size w w' := by
 have hu24 := Try.underlying24
 have HR0 := aM_ hr0
 have HC0 := aM_ hc0
 clear hr0 hc0
 have HB := aM_ (Below.refl w.heap.size w)
 have H : (r13_Straight.l0 k l0 0) = some r := h
 clear h
 replace H := aM_ H
 go_enter Try.func32, Try.ntmps32
 go_wp2
 go_loopg [3] k (fun kq v3 w' => ∃ (x3_1 : Int), v3 = .int .i64 x3_1 ∧ As_ (r13_Straight.l0 kq l0 x3_1 = some r) ∧ As_ (kq ≤ k) ∧ As_ (Below w.heap.size w w'))
 case atStart => exact ⟨(0), eQ_, H, ⟨Nat.le_refl _⟩, ⟨bl_ HB⟩⟩
 case round =>
  clear H
  obtain ⟨x3_1, rfl, HA, HK1, HB⟩ := hrel
  cases gk with
  | zero => exact absurd HA.out (by simp [r13_Straight.l0])
  | succ k1 =>
   have H := HA.out
   clear HA
   simp only [r13_Straight.l0] at H
   have HC2 := aM_ H
   clear H
   go_upto_region 2 with (fail)
   go_cut [11] (fun v11 wc => ∃ (kq : Nat) (x11_1 : Bool), v11 = .bool x11_1 ∧ As_ (r13_Straight.j1 kq l0 x3_1 x11_1 = some r) ∧ As_ (kq ≤ k1) ∧ As_ (Below w.heap.size w wc))
   case first =>
    have H := HC2.out
    clear HC2
    by_cases c3 : x3_1 < (l0.length : Int)
    ·rw [if_pos c3] at H
     have c3b0 := dE_ c3
     clear c3
     (first | rw [c3b0] | (simp only [i64_w, i32_w]; rw [c3b0]) | skip)
     replace H := aM_ H
     go_wp2
     go_meet
     case rel => exact ⟨_, (decide (x3_1 ≤ 200)), eQ_, H, ⟨by have := HK1.out; first | omega | exact Nat.le_refl _⟩, ⟨bl_ HB⟩⟩
    rw [if_neg c3] at H
    have c3b0 := dF_ c3
    clear c3
    (first | rw [c3b0] | (simp only [i64_w, i32_w]; rw [c3b0]) | skip)
    replace H := aM_ H
    go_wp2
    go_meet
    case rel => exact ⟨_, (false), eQ_, H, ⟨by have := HK1.out; first | omega | exact Nat.le_refl _⟩, ⟨bl_ HB⟩⟩
   case rest =>
    clear HC2
    obtain ⟨kq, x11_1, rfl, HA, HJ1, HB⟩ := hcut
    cases kq with
    | zero => exact absurd HA.out (by simp [r13_Straight.j1])
    | succ kj1 =>
     have H := HA.out
     clear HA
     simp only [r13_Straight.j1] at H
     by_cases c4 : x11_1 = true
     ·subst c4
      rw [if_pos rfl] at H
      have HC5 := aM_ H
      clear H
      go_upto_region 4 with (fail)
      go_cut [35] (fun v35 wc => ∃ (kq : Nat) (x35_4 : Bool), v35 = .bool x35_4 ∧ As_ (r13_Straight.j2 kq l0 x3_1 x35_4 = some r) ∧ As_ (kq ≤ kj1) ∧ As_ (Below w.heap.size w wc))
      case first =>
       have H := HC5.out
       clear HC5
       by_cases c6 : 0 ≤ x3_1
       ·rw [if_pos c6] at H
        have c6b0 := dE_ c6
        clear c6
        (first | rw [c6b0] | (simp only [i64_w, i32_w]; rw [c6b0]) | skip)
        by_cases c7 : x3_1 < (l0.length : Int)
        ·rw [if_pos c7] at H
         have c7b0 := dE_ c7
         clear c7
         replace H := oB_ H
         obtain ⟨t294, A8, H⟩ := H
         by_cases c9 : t294 = true
         ·subst c9
          rw [if_pos rfl] at H
          by_cases c10 : ((J24 l0 x3_1).f0) = 0
          ·rw [if_pos c10] at H
           have c10b0 := bH_ c10
           have c10b1 := bF_ c10
           clear c10
           replace H := aM_ H
           have p293 : 0 ≤ (x3_1 : Int) := oD_
           have q293 : x3_1 < (l0.length : Int) := oD_
           obtain ⟨ad293, e293, hx293_0, hx293_1, hx293_2, hx293_3, hx293_4, hx293_5⟩ := at_T24 HR0.out x3_1 p293 q293
           cases e293
           replace hx293_0 := hC_ HB hx293_0
           replace hx293_1 := hC_ HB hx293_1
           replace hx293_2 := hC_ HB hx293_2
           replace hx293_3 := hC_ HB hx293_3
           replace hx293_4 := hC_ HB hx293_4
           replace hx293_5 := hC_ HB hx293_5
           replace p293 := eq_true p293
           replace q293 := eq_true q293
           go_wp2_with (first | ((with_reducible refine gC_ (f := 39) rfl ?_); refine gL_ (some 18) Try.func39 #[.agg #[.int .i64 ((J24 l0 x3_1).f0), .int .i64 ((J24 l0 x3_1).f1), .int .i64 ((J24 l0 x3_1).f2), .int .i64 ((J24 l0 x3_1).f3), .int .i64 ((J24 l0 x3_1).f4), .string ((J24 l0 x3_1).f5)]] rfl ?_; (with_reducible refine (r3_Ins.calls kj1 ((J24 l0 x3_1).f0) ((J24 l0 x3_1).f1) ((J24 l0 x3_1).f2) ((J24 l0 x3_1).f3) ((J24 l0 x3_1).f4) ((J24 l0 x3_1).f5) true _ A8.out).mono ?_); rintro e w11 ⟨rfl, hb⟩; refine ⟨_, rfl, ?_⟩; replace HB := aM_ (bT_ (bl_ HB) hb); have p295 : 0 ≤ (x3_1 : Int) := oD_; have q295 : x3_1 < (l0.length : Int) := oD_; obtain ⟨ad295, e295, hx295_0, hx295_1, hx295_2, hx295_3, hx295_4, hx295_5⟩ := at_T24 HR0.out x3_1 p295 q295; obtain rfl : ad293 = ad295 := (by injection e295); replace hx295_0 := hC_ HB hx295_0; replace hx295_1 := hC_ HB hx295_1; replace hx295_2 := hC_ HB hx295_2; replace hx295_3 := hC_ HB hx295_3; replace hx295_4 := hC_ HB hx295_4; replace hx295_5 := hC_ HB hx295_5; replace p295 := eq_true p295; replace q295 := eq_true q295))
           go_meet
           case rel => exact ⟨_, (true), eQ_, H, ⟨by have := HK1.out; have := HJ1.out; first | omega | exact Nat.le_refl _⟩, ⟨bl_ HB⟩⟩
          rw [if_neg c10] at H
          have c10b0 := bE_ c10
          have c10b1 := bG_ c10
          replace H := oB_ H
          obtain ⟨t297, A12, H⟩ := H
          replace H := aM_ H
          have p293 : 0 ≤ (x3_1 : Int) := oD_
          have q293 : x3_1 < (l0.length : Int) := oD_
          obtain ⟨ad293, e293, hx293_0, hx293_1, hx293_2, hx293_3, hx293_4, hx293_5⟩ := at_T24 HR0.out x3_1 p293 q293
          cases e293
          replace hx293_0 := hC_ HB hx293_0
          replace hx293_1 := hC_ HB hx293_1
          replace hx293_2 := hC_ HB hx293_2
          replace hx293_3 := hC_ HB hx293_3
          replace hx293_4 := hC_ HB hx293_4
          replace hx293_5 := hC_ HB hx293_5
          replace p293 := eq_true p293
          replace q293 := eq_true q293
          go_wp2_with (first | ((with_reducible refine gC_ (f := 39) rfl ?_); refine gL_ (some 18) Try.func39 #[.agg #[.int .i64 ((J24 l0 x3_1).f0), .int .i64 ((J24 l0 x3_1).f1), .int .i64 ((J24 l0 x3_1).f2), .int .i64 ((J24 l0 x3_1).f3), .int .i64 ((J24 l0 x3_1).f4), .string ((J24 l0 x3_1).f5)]] rfl ?_; (with_reducible refine (r3_Ins.calls kj1 ((J24 l0 x3_1).f0) ((J24 l0 x3_1).f1) ((J24 l0 x3_1).f2) ((J24 l0 x3_1).f3) ((J24 l0 x3_1).f4) ((J24 l0 x3_1).f5) true _ A8.out).mono ?_); rintro e w13 ⟨rfl, hb⟩; refine ⟨_, rfl, ?_⟩; replace HB := aM_ (bT_ (bl_ HB) hb); have p295 : 0 ≤ (x3_1 : Int) := oD_; have q295 : x3_1 < (l0.length : Int) := oD_; obtain ⟨ad295, e295, hx295_0, hx295_1, hx295_2, hx295_3, hx295_4, hx295_5⟩ := at_T24 HR0.out x3_1 p295 q295; obtain rfl : ad293 = ad295 := (by injection e295); replace hx295_0 := hC_ HB hx295_0; replace hx295_1 := hC_ HB hx295_1; replace hx295_2 := hC_ HB hx295_2; replace hx295_3 := hC_ HB hx295_3; replace hx295_4 := hC_ HB hx295_4; replace hx295_5 := hC_ HB hx295_5; replace p295 := eq_true p295; replace q295 := eq_true q295; have p296 : 0 ≤ (x3_1 : Int) := oD_; have q296 : x3_1 < (l0.length : Int) := oD_; obtain ⟨ad296, e296, hx296_0, hx296_1, hx296_2, hx296_3, hx296_4, hx296_5⟩ := at_T24 HR0.out x3_1 p296 q296; obtain rfl : ad293 = ad296 := (by injection e296); replace hx296_0 := hC_ HB hx296_0; replace hx296_1 := hC_ HB hx296_1; replace hx296_2 := hC_ HB hx296_2; replace hx296_3 := hC_ HB hx296_3; replace hx296_4 := hC_ HB hx296_4; replace hx296_5 := hC_ HB hx296_5; replace p296 := eq_true p296; replace q296 := eq_true q296) | (go_at_call 40; (with_reducible refine (r3_Ends.calls ((J24 l0 x3_1).f0) t297 _ A12.out).mono ?_); rintro e w' ⟨rfl, ⟨nd, rfl⟩⟩))
          go_meet
          case rel => exact ⟨_, (t297), eQ_, H, ⟨by have := HK1.out; have := HJ1.out; first | omega | exact Nat.le_refl _⟩, ⟨bl_ HB⟩⟩
         replace c9 := eF_ c9
         subst c9
         rw [if_neg Bool.false_ne_true] at H
         replace H := aM_ H
         have p293 : 0 ≤ (x3_1 : Int) := oD_
         have q293 : x3_1 < (l0.length : Int) := oD_
         obtain ⟨ad293, e293, hx293_0, hx293_1, hx293_2, hx293_3, hx293_4, hx293_5⟩ := at_T24 HR0.out x3_1 p293 q293
         cases e293
         replace hx293_0 := hC_ HB hx293_0
         replace hx293_1 := hC_ HB hx293_1
         replace hx293_2 := hC_ HB hx293_2
         replace hx293_3 := hC_ HB hx293_3
         replace hx293_4 := hC_ HB hx293_4
         replace hx293_5 := hC_ HB hx293_5
         replace p293 := eq_true p293
         replace q293 := eq_true q293
         go_wp2_with (first | ((with_reducible refine gC_ (f := 39) rfl ?_); refine gL_ (some 18) Try.func39 #[.agg #[.int .i64 ((J24 l0 x3_1).f0), .int .i64 ((J24 l0 x3_1).f1), .int .i64 ((J24 l0 x3_1).f2), .int .i64 ((J24 l0 x3_1).f3), .int .i64 ((J24 l0 x3_1).f4), .string ((J24 l0 x3_1).f5)]] rfl ?_; (with_reducible refine (r3_Ins.calls kj1 ((J24 l0 x3_1).f0) ((J24 l0 x3_1).f1) ((J24 l0 x3_1).f2) ((J24 l0 x3_1).f3) ((J24 l0 x3_1).f4) ((J24 l0 x3_1).f5) false _ A8.out).mono ?_); rintro e w14 ⟨rfl, hb⟩; refine ⟨_, rfl, ?_⟩; replace HB := aM_ (bT_ (bl_ HB) hb)))
         go_meet
         case rel => exact ⟨_, (true), eQ_, H, ⟨by have := HK1.out; have := HJ1.out; first | omega | exact Nat.le_refl _⟩, ⟨bl_ HB⟩⟩
        rw [if_neg c7] at H
        exact absurd H (by simp)
       rw [if_neg c6] at H
       exact absurd H (by simp)
      case rest =>
       clear HC5
       obtain ⟨kq, x35_4, rfl, HA, HJ4, HB⟩ := hcut
       cases kq with
       | zero => exact absurd HA.out (by simp [r13_Straight.j2])
       | succ kj4 =>
        have H := HA.out
        clear HA
        simp only [r13_Straight.j2] at H
        by_cases c15 : x35_4 = true
        ·subst c15
         rw [if_pos rfl] at H
         obtain rfl := oI_ H
         go_wp2
         go_ret
         exact ⟨eR_, bl_ HB⟩
        replace c15 := eF_ c15
        subst c15
        rw [if_neg Bool.false_ne_true] at H
        replace H := aM_ H
        go_wp2
        go_roundg kj4
        case measure => have := HK1.out; have := HJ1.out; have := HJ4.out; omega
        case rel => exact ⟨(wrap64 (x3_1 + 1)), eQ_, H, ⟨by have := HK1.out; have := HJ1.out; have := HJ4.out; omega⟩, ⟨bl_ HB⟩⟩
     replace c4 := eF_ c4
     subst c4
     rw [if_neg Bool.false_ne_true] at H
     obtain rfl := oI_ H
     go_wp2
     go_ret
     exact ⟨eR_, bl_ HB⟩
mutual
def w14_rows.l0 : Nat → List (S24) → Int → List (S24) → Int → Int → Int → Int → Int → ByteArray → List Int → Option ((List (List (S24))))
  | 0, _, _, _, _, _, _, _, _, _, _ => none
  | k + 1, x3, x4, x299a, x299b, x299c, x299d, x299e, x299f, x299g, x299h => if x4 < (x299a.length : Int) then (w14_rows.j1 k x3 x4 (decide ((x3.length : Int) < 40)) x299a x299b x299c x299d x299e x299f x299g x299h) else (w14_rows.j1 k x3 x4 false x299a x299b x299c x299d x299e x299f x299g x299h)
def w14_rows.j1 : Nat → List (S24) → Int → Bool → List (S24) → Int → Int → Int → Int → Int → ByteArray → List Int → Option ((List (List (S24))))
  | 0, _, _, _, _, _, _, _, _, _, _, _ => none
  | k + 1, x3, x4, x14, x299a, x299b, x299c, x299d, x299e, x299f, x299g, x299h => if x14 = true then (if 0 ≤ x4 then (if x4 ≤ (wrap64 (x4 + 1)) then (if (wrap64 (x4 + 1)) ≤ (x299a.length : Int) then ((r13_Straight.f k ((x299a.take ((wrap64 (x4 + 1)) : Int).toNat).drop (x4 : Int).toNat)).bind fun t312 => (if t312 = true then (if x4 < (x299a.length : Int) then (if x3.length < 2513169434916 then (w14_rows.l0 k (x3 ++ [(⟨(J24 x299a x4).f0, (J24 x299a x4).f1, (J24 x299a x4).f2, (J24 x299a x4).f3, (J24 x299a x4).f4, (J24 x299a x4).f5⟩ : S24)]) (wrap64 (x4 + 1)) x299a x299b x299c x299d x299e x299f x299g x299h) else (none)) else (none)) else (w14_rows.l0 k x3 (wrap64 (x4 + 1)) x299a x299b x299c x299d x299e x299f x299g x299h))) else (none)) else (none)) else (none)) else (if 0 ≤ (wrap64 ((x3.length : Int) / 2)) then (if (wrap64 ((x3.length : Int) / 2)) ≤ (x3.length : Int) then (some (([x299a, x3, (x3.take ((wrap64 ((x3.length : Int) / 2)) : Int).toNat), []] : List (List (S24))))) else (none)) else (none))
end
def w14_rows.f (k : Nat) (l0_0 : List (S24)) (a0_1 : Int) (a0_2 : Int) (a0_3 : Int) (a0_4 : Int) (a0_5 : Int) (a0_6 : ByteArray) (l0_7 : List Int) : Option ((List (List (S24)))) := w14_rows.l0 k ([] : List (S24)) 0 l0_0 a0_1 a0_2 a0_3 a0_4 a0_5 a0_6 l0_7
def w14_rows.T7 : Bool × List (List Nat × List Nat) := (true, [([], []), ([0], [0]), ([], []), ([], []), ([], []), ([4], [4]), ([5], [5]), ([3, 6], [3, 6]), ([1, 2, 7], [1, 2, 7]), ([8, 0, 1, 2, 3, 4, 5, 6, 7, 8], [8])])
def w14_rows.B7 : List Nat := [0, 1, 0, 0, 0, 16, 48, 120, 255, 511]
theorem w14_rows.tab7 : rtab .any (opsOf Try.f29 7) = w14_rows.T7 := by kernel_rfl
theorem w14_rows.bits7 : waitsOk w14_rows.T7.2 w14_rows.B7 = true := by kernel_rfl
theorem w14_rows.calls (k : Nat) (P0_0_ : Nat → Prop) (A0_0 : Option Addr) (c0_0 : Nat) (l0_0 : List (S24)) (a0_1 : Int) (a0_2 : Int) (a0_3 : Int) (a0_4 : Int) (a0_5 : Int) (a0_6 : ByteArray) (A0_7 : Option Addr) (c0_7 : Nat) (l0_7 : List Int) (r : List (List (S24))) (w : World) (hs0_0 : Kd.V k24 24 w w.heap.size (fun k_ => P0_0_ k_) (.slice A0_0 l0_0.length c0_0) l0_0) (hr0_7 : Kd.C (Kd.int .i64) w A0_7 l0_7.length l0_7) (hc0_7 : l0_7.length ≤ c0_7) (h : w14_rows.f k l0_0 a0_1 a0_2 a0_3 a0_4 a0_5 a0_6 l0_7 = some r) :
    Calls Try.prog 29 #[.agg #[.slice A0_0 l0_0.length c0_0, .int .i64 a0_1, .int .i64 a0_2, .int .i64 a0_3, .int .i64 a0_4, .int .i64 a0_5, .string a0_6, .slice A0_7 l0_7.length c0_7]] w fun e w' => ∃ v0_ : Value, e = .returned (v0_) ∧ Kd.N (Kd.slice 24 k24) 22 w' w.heap.size (fun k_ => (P0_0_ k_ ∨ w.heap.size ≤ k_)) v0_ r ∧ Below w.heap.size w w' := by
 have hu27 := Try.underlying27
 have hu24 := Try.underlying24
 have HO0_0 := aM_ (show Kd.V k24 24 w w.heap.size (fun k_ => (P0_0_ k_ ∨ w.heap.size ≤ k_)) (.slice A0_0 l0_0.length c0_0) l0_0 from Kd.V_mono hs0_0 (fun k_ hk => .inl hk))
 have HR0_7 := aM_ hr0_7
 have HC0_7 := aM_ hc0_7
 clear hr0_7 hc0_7
 have HB := aM_ (Below.refl w.heap.size w)
 have H : (w14_rows.l0 k ([] : List (S24)) 0 l0_0 a0_1 a0_2 a0_3 a0_4 a0_5 a0_6 l0_7) = some r := h
 clear h
 replace H := aM_ H
 go_enter Try.func29, Try.ntmps29
 go_wp2_with (first | ((with_reducible refine gate_dst (N := 1) rfl ?_); refine bX_ (N := 1) (cs := #[.slice A0_0 l0_0.length c0_0, .int .i64 a0_1, .int .i64 a0_2, .int .i64 a0_3, .int .i64 a0_4, .int .i64 a0_5, .string a0_6, .slice A0_7 l0_7.length c0_7]) (t := 27) ?_; intro gb298 hg w2 hbox hb; replace HO0_0 := aM_ (Kd.V_below (Kd.V_elderB (by (with_reducible repeat (first | apply Kd.V_alloc | apply Kd.V_drewN | apply Kd.V_drew)); exact HO0_0.out) gb298 (Nat.le_of_eq hg.symm)) hb); replace BK298 := aM_ (hbox); replace GW298 := aM_ (gE_ hg (bl_ HB)); replace GE298 := aM_ (gE_ hg (bl_ HB)); replace HB := aM_ (bT_ (bl_ HB) hb); clear hb hbox hg))
 go_loopg [3, 4] k (fun kq v3 v4 w' => ∃ (x3_1 : List (S24)) (x4_1 : Int), v4 = .int .i64 x4_1 ∧ As_ (w14_rows.l0 kq x3_1 x4_1 l0_0 a0_1 a0_2 a0_3 a0_4 a0_5 a0_6 l0_7 = some r) ∧ As_ (kq ≤ k) ∧ As_ (Kd.R k24 24 w' w.heap.size (fun k_ => (w.heap.size ≤ k_)) v3 x3_1) ∧ As_ (Kd.V k24 24 w' w.heap.size (fun k_ => (P0_0_ k_ ∨ w.heap.size ≤ k_) ∧ some k_ ≠ (v3 : Value).ownBlock ∧ k_ ≠ gb298) (.slice A0_0 l0_0.length c0_0) l0_0) ∧ As_ (w'.heap[gb298]? = some (.cells #[(.slice A0_0 l0_0.length c0_0), .int .i64 a0_1, .int .i64 a0_2, .int .i64 a0_3, .int .i64 a0_4, .int .i64 a0_5, .string a0_6, (.slice A0_7 l0_7.length c0_7)] 27 (0, 0))) ∧ As_ (Below w.heap.size w w'))
 case atStart => exact ⟨(([] : List (S24))), (0), eQ_, H, ⟨Nat.le_refl _⟩, ⟨by first | exact Kd.R_nil _ _ _ _ _ | exact Kd.N_nil _ _ _ _ _ | exact Kd.V_nil _ _ _ _ _ | exact Kd.Q_nil _ _ _ _ _ | exact Kd.S_nil _ _ _ _ _⟩, ⟨by (with_reducible repeat (first | apply Kd.V_alloc | apply Kd.V_drewN | apply Kd.V_drew)); exact Kd.V_mono HO0_0.out (fun _ hk => ⟨hk.1, ⟨(by simp [Value.ownBlock]), hk.2⟩⟩)⟩, ⟨rB_ BK298⟩, ⟨bs_ HB GE298⟩⟩
 case round =>
  clear H
  obtain ⟨x3_1, x4_1, rfl, HA, HK1, HO_3, HO_299000, BK298, HB⟩ := hrel
  cases gk with
  | zero => exact absurd HA.out (by simp [w14_rows.l0])
  | succ k1 =>
   have H := HA.out
   clear HA
   simp only [w14_rows.l0] at H
   have HC3 := aM_ H
   clear H
   go_upto_region 3 with (fail)
   go_cut [14] (fun v14 wc => ∃ (kq : Nat) (x14_2 : Bool), v14 = .bool x14_2 ∧ As_ (w14_rows.j1 kq x3_1 x4_1 x14_2 l0_0 a0_1 a0_2 a0_3 a0_4 a0_5 a0_6 l0_7 = some r) ∧ As_ (kq ≤ k1) ∧ As_ (Kd.R k24 24 wc w.heap.size (fun k_ => (w.heap.size ≤ k_)) u3 x3_1) ∧ As_ (Kd.V k24 24 wc w.heap.size (fun k_ => (P0_0_ k_ ∨ w.heap.size ≤ k_) ∧ some k_ ≠ (u3 : Value).ownBlock ∧ k_ ≠ gb298) (.slice A0_0 l0_0.length c0_0) l0_0) ∧ As_ (wc.heap[gb298]? = some (.cells #[(.slice A0_0 l0_0.length c0_0), .int .i64 a0_1, .int .i64 a0_2, .int .i64 a0_3, .int .i64 a0_4, .int .i64 a0_5, .string a0_6, (.slice A0_7 l0_7.length c0_7)] 27 (0, 0))) ∧ As_ (Below w.heap.size w wc))
   case first =>
    have H := HC3.out
    clear HC3
    by_cases c4 : x4_1 < (l0_0.length : Int)
    ·rw [if_pos c4] at H
     have c4b0 := dE_ c4
     clear c4
     (first | rw [c4b0] | (simp only [i64_w, i32_w]; rw [c4b0]) | skip)
     replace H := aM_ H
     obtain ⟨hcz5_0, hcz5_1, hcz5_2, hcz5_3, hcz5_4, hcz5_5, hcz5_6, hcz5_7⟩ := cl8_ BK298.out
     obtain ⟨hfz5_0, hfz5_1, hfz5_2, hfz5_3, hfz5_4, hfz5_5, hfz5_6, hfz5_7⟩ := fz8_ BK298.out
     obtain ⟨Ao6, co6, eo6⟩ := Kd.R_slice HO_3.out
     subst eo6
     go_wp2
     go_meet
     case rel => exact ⟨_, (decide ((x3_1.length : Int) < 40)), eQ_, H, ⟨by have := HK1.out; first | omega | exact Nat.le_refl _⟩, ⟨rR_ HO_3⟩, ⟨by (with_reducible repeat (first | apply Kd.V_alloc | apply Kd.V_drewN | apply Kd.V_drew)); exact HO_299000.out⟩, ⟨rB_ BK298⟩, ⟨bs_ HB GE298⟩⟩
    rw [if_neg c4] at H
    have c4b0 := dF_ c4
    clear c4
    (first | rw [c4b0] | (simp only [i64_w, i32_w]; rw [c4b0]) | skip)
    replace H := aM_ H
    obtain ⟨hcz7_0, hcz7_1, hcz7_2, hcz7_3, hcz7_4, hcz7_5, hcz7_6, hcz7_7⟩ := cl8_ BK298.out
    obtain ⟨hfz7_0, hfz7_1, hfz7_2, hfz7_3, hfz7_4, hfz7_5, hfz7_6, hfz7_7⟩ := fz8_ BK298.out
    go_wp2
    go_meet
    case rel => exact ⟨_, (false), eQ_, H, ⟨by have := HK1.out; first | omega | exact Nat.le_refl _⟩, ⟨rR_ HO_3⟩, ⟨by (with_reducible repeat (first | apply Kd.V_alloc | apply Kd.V_drewN | apply Kd.V_drew)); exact HO_299000.out⟩, ⟨rB_ BK298⟩, ⟨bs_ HB GE298⟩⟩
   case rest =>
    clear HC3
    obtain ⟨kq, x14_2, rfl, HA, HJ2, HO_3, HO_299000, BK298, HB⟩ := hcut
    cases kq with
    | zero => exact absurd HA.out (by simp [w14_rows.j1])
    | succ kj2 =>
     have H := HA.out
     clear HA
     simp only [w14_rows.j1] at H
     by_cases c8 : x14_2 = true
     ·subst c8
      rw [if_pos rfl] at H
      by_cases c9 : 0 ≤ x4_1
      ·rw [if_pos c9] at H
       have c9b0 := eq_true c9
       have c9b1 := dE_ c9
       clear c9
       by_cases c10 : x4_1 ≤ (wrap64 (x4_1 + 1))
       ·rw [if_pos c10] at H
        have c10b0 := eq_true c10
        have c10b1 := dE_ c10
        by_cases c11 : (wrap64 (x4_1 + 1)) ≤ (l0_0.length : Int)
        ·rw [if_pos c11] at H
         have c11b0 := eq_true c11
         have c11b1 := dE_ c11
         obtain ⟨y307, hy307⟩ : ∃ y_ : List (S24), y_ = ((l0_0.take ((wrap64 (x4_1 + 1)) : Int).toNat).drop (x4_1 : Int).toNat) := ⟨_, rfl⟩
         replace H : ((r13_Straight.f kj2 y307).bind fun t312 => (if t312 = true then (if x4_1 < (l0_0.length : Int) then (if x3_1.length < 2513169434916 then (w14_rows.l0 kj2 (x3_1 ++ [(⟨(J24 l0_0 x4_1).f0, (J24 l0_0 x4_1).f1, (J24 l0_0 x4_1).f2, (J24 l0_0 x4_1).f3, (J24 l0_0 x4_1).f4, (J24 l0_0 x4_1).f5⟩ : S24)]) (wrap64 (x4_1 + 1)) l0_0 a0_1 a0_2 a0_3 a0_4 a0_5 a0_6 l0_7) else (none)) else (none)) else (w14_rows.l0 kj2 x3_1 (wrap64 (x4_1 + 1)) l0_0 a0_1 a0_2 a0_3 a0_4 a0_5 a0_6 l0_7))) = some r := by first | (rw [hy307]; with_reducible exact H) | (have H2_ := (Option.bind_some _ _).symm.trans H; rw [hy307]; with_reducible exact H2_) | (have H2_ := (Option.bind_some _ _).symm.trans H; with_reducible exact H2_) | with_reducible exact H | (rw [hy307]; exact H) | exact H
         have Ny307 := aM_ hy307
         clear hy307
         replace H := oB_ H
         obtain ⟨t312, A12, H⟩ := H
         by_cases c13 : t312 = true
         ·subst c13
          rw [if_pos rfl] at H
          by_cases c14 : x4_1 < (l0_0.length : Int)
          ·rw [if_pos c14] at H
           have c14b0 := dE_ c14
           clear c14
           by_cases c15 : x3_1.length < 2513169434916
           ·rw [if_pos c15] at H
            have LMc15 := aM_ c15
            clear c15
            obtain ⟨y314, hy314⟩ : ∃ y_ : List (S24), y_ = (x3_1 ++ [(⟨(J24 l0_0 x4_1).f0, (J24 l0_0 x4_1).f1, (J24 l0_0 x4_1).f2, (J24 l0_0 x4_1).f3, (J24 l0_0 x4_1).f4, (J24 l0_0 x4_1).f5⟩ : S24)]) := ⟨_, rfl⟩
            replace H : (w14_rows.l0 kj2 y314 (wrap64 (x4_1 + 1)) l0_0 a0_1 a0_2 a0_3 a0_4 a0_5 a0_6 l0_7) = some r := by first | (rw [hy314]; with_reducible exact H) | (have H2_ := (Option.bind_some _ _).symm.trans H; rw [hy314]; with_reducible exact H2_) | (have H2_ := (Option.bind_some _ _).symm.trans H; with_reducible exact H2_) | with_reducible exact H | (rw [hy314]; exact H) | exact H
            have Ny314 := aM_ hy314
            clear hy314
            replace H := aM_ H
            obtain ⟨hcz16_0, hcz16_1, hcz16_2, hcz16_3, hcz16_4, hcz16_5, hcz16_6, hcz16_7⟩ := cl8_ BK298.out
            obtain ⟨hfz16_0, hfz16_1, hfz16_2, hfz16_3, hfz16_4, hfz16_5, hfz16_6, hfz16_7⟩ := fz8_ BK298.out
            have q17 : ((wrap64 (x4_1 + 1)) : Int) ≤ ((l0_0.length : Int) : Int) := oD_
            obtain ⟨i017, hi017, _, hsz17, _⟩ := info_parts info24
            have hroom17 : l0_0.length ≤ c0_0 := (Kd.V_reads' HO_299000.out).2.1
            have hC17 : Kd.F k24 _ _ A0_0 l0_0.length l0_0 := (Kd.V_at (base := w.heap.size) HO_299000.out).2.2
            have ql17 : (x4_1 : Int) ≤ ((wrap64 (x4_1 + 1)) : Int) := oD_
            have q017 : (0 : Int) ≤ (x4_1 : Int) := oD_
            have hcut17 := cut_mid (P := Try.prog) 22 24 .i64 .i64 Try.underlying22 hi017 6 hsz17 A0_0 l0_0.length c0_0 x4_1 (wrap64 (x4_1 + 1)) q017 ql17 q17 hroom17
            have hr17 := Kd.F_mid (lo := (x4_1 : Int).toNat) (hi := ((wrap64 (x4_1 + 1)) : Int).toNat) (c := c0_0) hC17 (by omega) (by omega) hroom17
            obtain ⟨A17, hA17⟩ : ∃ A1, A1 = (if c0_0 = (x4_1 : Int).toNat then A0_0 else (A0_0 : Option Addr).map (·.add ((x4_1 : Int).toNat * 6))) := ⟨_, rfl⟩
            obtain ⟨c17, hc17⟩ : ∃ c1, c1 = c0_0 - (x4_1 : Int).toNat := ⟨_, rfl⟩
            have hy17 : y307.length = ((wrap64 (x4_1 + 1)) : Int).toNat - (x4_1 : Int).toNat := (by rw [Ny307.out, List.length_drop, List.length_take] <;> omega)
            rw [show ((l0_0).take ((wrap64 (x4_1 + 1)) : Int).toNat).drop (x4_1 : Int).toNat = y307 from Ny307.out.symm] at hr17
            replace hr17 : Kd.F k24 _ _ A17 y307.length y307 := (by rw [hA17]; exact hr17)
            rw [← hy17, ← hA17, ← hc17] at hcut17
            have HO311 := aM_ (show Kd.V k24 24 _ w.heap.size _ (.slice A17 y307.length c17) y307 from Kd.V_mk (by rw [hy17, hc17]; exact Nat.sub_le_sub_right (Nat.le_trans (by omega) hroom17) _) hr17)
            have HC311 := aM_ (show y307.length ≤ c17 from by rw [hy17, hc17]; exact Nat.sub_le_sub_right (Nat.le_trans (by omega) hroom17) _)
            clear hr17 hC17 hroom17 hi017 hsz17 hc17
            have KY17 := aM_ hy17
            have KA17 := aM_ hA17
            clear hy17 hA17
            replace q17 := eq_true q17
            go_wp2_with (first | ((with_reducible refine gC_ (f := 32) rfl ?_); refine gL_ (some 23) Try.func32 #[.slice A17 y307.length c17] rfl ?_; (with_reducible refine (r13_Straight.calls kj2 _ _ y307 true _ ?side1 ?side2 A12.out).mono ?_); (case side1 => exact rC_ (Kd.V_reads' HO311.out).2.2); (case side2 => exact (Kd.V_reads' HO311.out).2.1); rintro e w18 ⟨rfl, hb⟩; refine ⟨_, rfl, ?_⟩; replace HO_3 := aM_ (Kd.R_below (rR_ HO_3) hb); replace HO_299000 := aM_ (Kd.V_below (by (with_reducible repeat (first | apply Kd.V_alloc | apply Kd.V_drewN | apply Kd.V_drew)); exact HO_299000.out) hb); replace HO311 := aM_ (Kd.V_below (by (with_reducible repeat (first | apply Kd.V_alloc | apply Kd.V_drewN | apply Kd.V_drew)); exact HO311.out) hb); replace BK298 := aM_ (kB_ (rB_ BK298) hb); replace HB := aM_ (bT_ (bs_ HB GE298) hb); obtain ⟨hcz19_0, hcz19_1, hcz19_2, hcz19_3, hcz19_4, hcz19_5, hcz19_6, hcz19_7⟩ := cl8_ BK298.out; obtain ⟨hfz19_0, hfz19_1, hfz19_2, hfz19_3, hfz19_4, hfz19_5, hfz19_6, hfz19_7⟩ := fz8_ BK298.out; have p313 : 0 ≤ (x4_1 : Int) := oD_; have q313 : x4_1 < (l0_0.length : Int) := oD_; obtain ⟨ad313, e313, hx313_0, hx313_1, hx313_2, hx313_3, hx313_4, hx313_5⟩ := at_T24 (Kd.V_reads' HO_299000.out).2.2 x4_1 p313 q313; cases e313; replace p313 := eq_true p313; replace q313 := eq_true q313) | ((with_reducible refine gate_builtin (b := .append) (xs := #[.tmp 24, .tmp 30]) rfl ?_); at_builtin; refine Kd.R_append k24 (w0 := w) w.heap.size rfl (.tmp 24) (.tmp 30) 22 24 (.agg #[(.int .i64 0), (.int .i64 0), (.int .i64 0), (.int .i64 0), (.int .i64 0), (.string ⟨#[]⟩)]) 56 rfl Try.underlying22 info24 rfl (by decide) (by omega) u3 x3_1 (⟨(J24 l0_0 x4_1).f0, (J24 l0_0 x4_1).f1, (J24 l0_0 x4_1).f2, (J24 l0_0 x4_1).f3, (J24 l0_0 x4_1).f4, (J24 l0_0 x4_1).f5⟩ : S24) [.int .i64 ((J24 l0_0 x4_1).f0), .int .i64 ((J24 l0_0 x4_1).f1), .int .i64 ((J24 l0_0 x4_1).f2), .int .i64 ((J24 l0_0 x4_1).f3), .int .i64 ((J24 l0_0 x4_1).f4), .string ((J24 l0_0 x4_1).f5)] (fun k_ => (w.heap.size ≤ k_)) (fun _ => False) rfl rfl ?aP (fun _ hk => hk.elim) ?aF ?aO ?aB ?aS ?aL ?_; (case aP => exact k24_mkM _ _ _ (⟨(J24 l0_0 x4_1).f0, (J24 l0_0 x4_1).f1, (J24 l0_0 x4_1).f2, (J24 l0_0 x4_1).f3, (J24 l0_0 x4_1).f4, (J24 l0_0 x4_1).f5⟩ : S24)); (case aB => exact (bs_ HB GE298)); (case aF => exact (fun k_ hk => (Nat.le_trans (bY_ (bs_ HB GE298)) hk))); (case aO => exact (rR_ HO_3)); (case aS => exact (bY_ (bs_ HB GE298))); (case aL => have := LMc15.out; omega); intro v315 w20 ho hb hg hat; rw [← Ny314.out] at ho; replace HO_299000 := aM_ (Kd.V_afterv (ok := (fun k_ => (P0_0_ k_ ∨ w.heap.size ≤ k_) ∧ k_ ≠ gb298)) (by (with_reducible repeat (first | apply Kd.V_alloc | apply Kd.V_drewN | apply Kd.V_drew)); exact Kd.V_mono HO_299000.out (fun _ hk => ⟨⟨hk.1, hk.2.2⟩, hk.2.1⟩)) hg hat); replace BK298 := aM_ (blk_grown (g := gb298) (o := .cells #[.slice (some ad313) l0_0.length c0_0, .int .i64 a0_1, .int .i64 a0_2, .int .i64 a0_3, .int .i64 a0_4, .int .i64 a0_5, .string a0_6, .slice A0_7 l0_7.length c0_7] 27 (0, 0)) (rB_ BK298) hg (Kd.R_ne HO_3.out BK298.out (by decide))); replace HO311 := aM_ (Kd.V_afterv (ok := (fun k_ => (P0_0_ k_ ∨ w.heap.size ≤ k_) ∧ k_ ≠ gb298)) (by (with_reducible repeat (first | apply Kd.V_alloc | apply Kd.V_drewN | apply Kd.V_drew)); exact Kd.V_mono HO311.out (fun _ hk => ⟨⟨hk.1, hk.2.2⟩, hk.2.1⟩)) hg hat); replace HB := aM_ (hb); replace HO316 := aM_ (ho); clear HO_3; clear ho hb hg hat))
            go_roundg kj2
            case measure => have := HK1.out; have := HJ2.out; omega
            case rel => exact ⟨(y314), (wrap64 (x4_1 + 1)), eQ_, H, ⟨by have := HK1.out; have := HJ2.out; omega⟩, ⟨rR_ HO316⟩, ⟨by (with_reducible repeat (first | apply Kd.V_alloc | apply Kd.V_drewN | apply Kd.V_drew)); exact Kd.V_mono HO_299000.out (fun _ hk => ⟨hk.1.1, ⟨hk.2, hk.1.2⟩⟩)⟩, ⟨rB_ BK298⟩, ⟨bs_ HB GE298⟩⟩
           rw [if_neg c15] at H
           exact absurd H (by simp)
          rw [if_neg c14] at H
          exact absurd H (by simp)
         replace c13 := eF_ c13
         subst c13
         rw [if_neg Bool.false_ne_true] at H
         replace H := aM_ H
         obtain ⟨hcz21_0, hcz21_1, hcz21_2, hcz21_3, hcz21_4, hcz21_5, hcz21_6, hcz21_7⟩ := cl8_ BK298.out
         obtain ⟨hfz21_0, hfz21_1, hfz21_2, hfz21_3, hfz21_4, hfz21_5, hfz21_6, hfz21_7⟩ := fz8_ BK298.out
         have q22 : ((wrap64 (x4_1 + 1)) : Int) ≤ ((l0_0.length : Int) : Int) := oD_
         obtain ⟨i022, hi022, _, hsz22, _⟩ := info_parts info24
         have hroom22 : l0_0.length ≤ c0_0 := (Kd.V_reads' HO_299000.out).2.1
         have hC22 : Kd.F k24 _ _ A0_0 l0_0.length l0_0 := (Kd.V_at (base := w.heap.size) HO_299000.out).2.2
         have ql22 : (x4_1 : Int) ≤ ((wrap64 (x4_1 + 1)) : Int) := oD_
         have q022 : (0 : Int) ≤ (x4_1 : Int) := oD_
         have hcut22 := cut_mid (P := Try.prog) 22 24 .i64 .i64 Try.underlying22 hi022 6 hsz22 A0_0 l0_0.length c0_0 x4_1 (wrap64 (x4_1 + 1)) q022 ql22 q22 hroom22
         have hr22 := Kd.F_mid (lo := (x4_1 : Int).toNat) (hi := ((wrap64 (x4_1 + 1)) : Int).toNat) (c := c0_0) hC22 (by omega) (by omega) hroom22
         obtain ⟨A22, hA22⟩ : ∃ A1, A1 = (if c0_0 = (x4_1 : Int).toNat then A0_0 else (A0_0 : Option Addr).map (·.add ((x4_1 : Int).toNat * 6))) := ⟨_, rfl⟩
         obtain ⟨c22, hc22⟩ : ∃ c1, c1 = c0_0 - (x4_1 : Int).toNat := ⟨_, rfl⟩
         have hy22 : y307.length = ((wrap64 (x4_1 + 1)) : Int).toNat - (x4_1 : Int).toNat := (by rw [Ny307.out, List.length_drop, List.length_take] <;> omega)
         rw [show ((l0_0).take ((wrap64 (x4_1 + 1)) : Int).toNat).drop (x4_1 : Int).toNat = y307 from Ny307.out.symm] at hr22
         replace hr22 : Kd.F k24 _ _ A22 y307.length y307 := (by rw [hA22]; exact hr22)
         rw [← hy22, ← hA22, ← hc22] at hcut22
         have HO311 := aM_ (show Kd.V k24 24 _ w.heap.size _ (.slice A22 y307.length c22) y307 from Kd.V_mk (by rw [hy22, hc22]; exact Nat.sub_le_sub_right (Nat.le_trans (by omega) hroom22) _) hr22)
         have HC311 := aM_ (show y307.length ≤ c22 from by rw [hy22, hc22]; exact Nat.sub_le_sub_right (Nat.le_trans (by omega) hroom22) _)
         clear hr22 hC22 hroom22 hi022 hsz22 hc22
         have KY22 := aM_ hy22
         have KA22 := aM_ hA22
         clear hy22 hA22
         replace q22 := eq_true q22
         go_wp2_with (first | ((with_reducible refine gC_ (f := 32) rfl ?_); refine gL_ (some 23) Try.func32 #[.slice A22 y307.length c22] rfl ?_; (with_reducible refine (r13_Straight.calls kj2 _ _ y307 false _ ?side1 ?side2 A12.out).mono ?_); (case side1 => exact rC_ (Kd.V_reads' HO311.out).2.2); (case side2 => exact (Kd.V_reads' HO311.out).2.1); rintro e w23 ⟨rfl, hb⟩; refine ⟨_, rfl, ?_⟩; replace HO_3 := aM_ (Kd.R_below (rR_ HO_3) hb); replace HO_299000 := aM_ (Kd.V_below (by (with_reducible repeat (first | apply Kd.V_alloc | apply Kd.V_drewN | apply Kd.V_drew)); exact HO_299000.out) hb); replace HO311 := aM_ (Kd.V_below (by (with_reducible repeat (first | apply Kd.V_alloc | apply Kd.V_drewN | apply Kd.V_drew)); exact HO311.out) hb); replace BK298 := aM_ (kB_ (rB_ BK298) hb); replace HB := aM_ (bT_ (bs_ HB GE298) hb)))
         go_roundg kj2
         case measure => have := HK1.out; have := HJ2.out; omega
         case rel => exact ⟨(x3_1), (wrap64 (x4_1 + 1)), eQ_, H, ⟨by have := HK1.out; have := HJ2.out; omega⟩, ⟨rR_ HO_3⟩, ⟨by (with_reducible repeat (first | apply Kd.V_alloc | apply Kd.V_drewN | apply Kd.V_drew)); exact HO_299000.out⟩, ⟨rB_ BK298⟩, ⟨bs_ HB GE298⟩⟩
        rw [if_neg c11] at H
        exact absurd H (by simp)
       rw [if_neg c10] at H
       exact absurd H (by simp)
      rw [if_neg c9] at H
      exact absurd H (by simp)
     replace c8 := eF_ c8
     subst c8
     rw [if_neg Bool.false_ne_true] at H
     obtain ⟨ji24, hji24⟩ : ∃ j_ : Int, (wrap64 ((x3_1.length : Int) / 2)) = j_ := ⟨_, rfl⟩
     replace H : (if 0 ≤ (ji24) then (if (ji24) ≤ (x3_1.length : Int) then (some (([l0_0, x3_1, (x3_1.take ((ji24) : Int).toNat), []] : List (List (S24))))) else (none)) else (none)) = some r := by first | (rw [hji24] at H; exact H) | (simp only [hji24] at H ⊢; exact H)
     have hji24w : (IntKind.i64.wrap ((x3_1.length : Int) / 2)) = ji24 := (i64_w _).trans hji24
     by_cases c25 : 0 ≤ (ji24)
     ·rw [if_pos c25] at H
      have c25b0 := eq_true c25
      have c25b1 := dE_ c25
      clear c25
      by_cases c26 : (ji24) ≤ (x3_1.length : Int)
      ·rw [if_pos c26] at H
       have c26b0 := eq_true c26
       have c26b1 := dE_ c26
       clear c26
       obtain ⟨y299, hy299⟩ : ∃ y_ : List (S24), y_ = (x3_1.take ((ji24) : Int).toNat) := ⟨_, rfl⟩
       replace H : (some (([l0_0, x3_1, y299, []] : List (List (S24))))) = some r := by first | (rw [hy299]; with_reducible exact H) | (have H2_ := (Option.bind_some _ _).symm.trans H; rw [hy299]; with_reducible exact H2_) | (have H2_ := (Option.bind_some _ _).symm.trans H; with_reducible exact H2_) | with_reducible exact H | (rw [hy299]; exact H) | exact H
       have Ny299 := aM_ hy299
       clear hy299
       obtain ⟨y304, hy304⟩ : ∃ y_ : List (List (S24)), y_ = (([l0_0, x3_1, y299, []] : List (List (S24)))) := ⟨_, rfl⟩
       replace H : (some y304) = some r := by first | (rw [hy304]; with_reducible exact H) | (have H2_ := (Option.bind_some _ _).symm.trans H; rw [hy304]; with_reducible exact H2_) | (have H2_ := (Option.bind_some _ _).symm.trans H; with_reducible exact H2_) | with_reducible exact H | (rw [hy304]; exact H) | exact H
       have Ny304 := aM_ hy304
       clear hy304
       obtain rfl := oI_ H
       try go_wp2
       replace HO_3 := aM_ (Kd.R_drew HO_3.out)
       replace HO_299000 := aM_ (Kd.V_drew HO_299000.out)
       replace BK298 := aM_ (kD_ BK298.out)
       replace HB := aM_ (b1_ HB.out)
       obtain ⟨Ao28, co28, eo28⟩ := Kd.R_slice HO_3.out
       (first | subst eo28 | (injection eo28 with f1_ f2_ f3_; have f4_ := f1_.symm; have f5_ := f3_.symm; clear f1_ f2_ f3_; subst f4_; subst f5_))
       have q29 : ((ji24) : Int) ≤ ((x3_1.length : Int) : Int) := oD_
       obtain ⟨i029, hi029, _, hsz29, _⟩ := info_parts info24
       have hroom29 : x3_1.length ≤ co28 := (Kd.R_reads' HO_3.out).2.1
       have hC29 : Kd.F k24 _ _ Ao28 x3_1.length x3_1 := (Kd.V_at (base := w.heap.size) (Kd.V_mono (ok' := (fun k_ => ((P0_0_ k_ ∨ w.heap.size ≤ k_) ∧ k_ ≠ gb298))) (Kd.R_V (Kd.R_types (HO_3.out) BK298.out (by decide))) (fun k_ hk => ⟨(.inr (hk.1)), hk.2⟩))).2.2
       have hcut29 := cut_to (P := Try.prog) 22 24 .i64 Try.underlying22 hi029 Ao28 x3_1.length co28 (ji24) (oD_) q29 hroom29
       have hr29 := Kd.F_take (m := ((ji24) : Int).toNat) hC29 (by omega)
       have hy29 : y299.length = ((ji24) : Int).toNat := (by rw [Ny299.out, List.length_take]; omega)
       rw [← Ny299.out] at hr29
       rw [← hy29] at hcut29
       have HO303 := aM_ (show Kd.V k24 24 _ w.heap.size _ (.slice Ao28 y299.length co28) y299 from Kd.V_mk (by omega) hr29)
       have HC303 := aM_ (show y299.length ≤ co28 from by omega)
       clear hr29 hC29 hroom29 hi029 hsz29
       have KY29 := aM_ hy29
       clear hy29
       replace q29 := eq_true q29
       refine start_ (n := 10) (S := fun w' => w'.cell? ⟨gb298, 0, none⟩ = some (.slice A0_0 l0_0.length c0_0) ∧ w'.cell? ⟨gb298, 1, none⟩ = some (.int .i64 a0_1) ∧ w'.cell? ⟨gb298, 2, none⟩ = some (.int .i64 a0_2) ∧ w'.cell? ⟨gb298, 3, none⟩ = some (.int .i64 a0_3) ∧ w'.cell? ⟨gb298, 4, none⟩ = some (.int .i64 a0_4) ∧ w'.cell? ⟨gb298, 5, none⟩ = some (.int .i64 a0_5) ∧ w'.cell? ⟨gb298, 6, none⟩ = some (.string a0_6) ∧ w'.cell? ⟨gb298, 7, none⟩ = some (.slice A0_7 l0_7.length c0_7)) (ds := []) #[false, false, false, false, false, false, false, false, false, false] (by kernel_rfl) rfl (by kernel_rfl) ⟨(bC_ BK298.out 0).trans rfl, (bC_ BK298.out 1).trans rfl, (bC_ BK298.out 2).trans rfl, (bC_ BK298.out 3).trans rfl, (bC_ BK298.out 4).trans rfl, (bC_ BK298.out 5).trans rfl, (bC_ BK298.out 6).trans rfl, (bC_ BK298.out 7).trans rfl⟩ (fun hHeld => ?_); refine with_tabW w14_rows.tab7 w14_rows.bits7 (fun HT_ HW_ => ?_)
       generalize wc.drew = w27 at HO_3 HO_299000 BK298 HB HO303 hHeld ⊢
       refine seq_ (k := 2) [(0, some 32, false), (2, some 34, false), (3, some 35, false), (4, some 36, false), (5, some 37, false), (6, some 38, false), (7, some 39, false), (1, some 33, true)] #[true, true, true, true, true, true, true, true, false, false] rfl (seq_of HT_.out HW_.out (by kernel_rfl)) (fun _ _ _ _ _ h => h) hHeld ?_
       repeat (first | (refine SeqOn.pure (v := ?_) (a' := ?_) rfl rfl (Or.inl ⟨by kernel_rfl, ?_⟩) ?_ ?_; rotate_left 2; (focus (intro w'; go_simp; with_reducible rfl)); (focus exact pU_)) | (refine SeqOn.take (v := ?_) (a' := ?_) rfl rfl (Or.inl ⟨by kernel_rfl, ?_⟩) ?_ ?_; rotate_left 2; (focus (rintro w' ⟨s0, s1, s2, s3, s4, s5, s6, s7⟩; go_simp; with_reducible rfl)); (focus exact pU_)))
       refine SeqOn.nil ?_
       refine one_ (i := 8) (N := some 40) #[true, true, true, true, true, true, true, true, true, false] rfl rfl (one_of HT_.out (by kernel_rfl)) (by decide) (fun K hK => ?_)
       refine Kd.N_lit_step (Kd.slice 24 k24) _ 22 ?hg (N' := 40) ?hd (xs := ([l0_0, x3_1, y299, []] : List (List (S24)))) (inner := [.slice A0_0 l0_0.length c0_0, .slice Ao28 x3_1.length co28, .slice Ao28 y299.length co28, .slice none 0 0]) (ok := (fun k_ => (P0_0_ k_ ∨ w.heap.size ≤ k_) ∧ k_ ≠ gb298)) (okp := (fun k_ => (P0_0_ k_ ∨ w.heap.size ≤ k_) ∧ k_ ≠ gb298)) ?hr ?hp (fun _ hk => hk) ((show ∀ k_, w27.heap.size ≤ k_ → (fun k_ => (P0_0_ k_ ∨ w.heap.size ≤ k_) ∧ k_ ≠ gb298) k_ from fun k_ hk => ⟨(.inr (Nat.le_trans (bY_ (bs_ HB GE298)) hk)), Kd.freshB (g := gb298) (o := .cells #[.slice A0_0 l0_0.length c0_0, .int .i64 a0_1, .int .i64 a0_2, .int .i64 a0_3, .int .i64 a0_4, .int .i64 a0_5, .string a0_6, .slice A0_7 l0_7.length c0_7] 27 (0, 0)) (rB_ BK298) k_ hk⟩) _ (Nat.le_refl _)) (Below.refl _ _) (Nat.le_refl _) (by simp) ?_; (case hd => rfl); (case hg => rfl); (case hr => first | (go_simp; done) | (go_simp; rfl)); (case hp => exact (Reps.one (show Kd.FK (Kd.slice 24 k24) _ _ l0_0 [.slice A0_0 l0_0.length c0_0] from (Kd.FK_slice_mk (Kd.V_reads' (Kd.V_mono (ok' := (fun k_ => (P0_0_ k_ ∨ w.heap.size ≤ k_) ∧ k_ ≠ gb298)) (HO_299000.out) (fun k_ hk => ⟨hk.1, hk.2.2⟩))).2.1 (Kd.V_F (Kd.V_mono (ok' := (fun k_ => (P0_0_ k_ ∨ w.heap.size ≤ k_) ∧ k_ ≠ gb298)) (HO_299000.out) (fun k_ hk => ⟨hk.1, hk.2.2⟩))))) (Reps.one (show Kd.FK (Kd.slice 24 k24) _ _ x3_1 [.slice Ao28 x3_1.length co28] from (Kd.FK_slice_mk (Kd.R_reads' (Kd.R_mono (ok' := (fun k_ => (P0_0_ k_ ∨ w.heap.size ≤ k_) ∧ k_ ≠ gb298)) (Kd.R_types (HO_3.out) BK298.out (by decide)) (fun k_ hk => ⟨(.inr (hk.1)), hk.2⟩))).2.1 (Kd.R_F (Kd.R_mono (ok' := (fun k_ => (P0_0_ k_ ∨ w.heap.size ≤ k_) ∧ k_ ≠ gb298)) (Kd.R_types (HO_3.out) BK298.out (by decide)) (fun k_ hk => ⟨(.inr (hk.1)), hk.2⟩))))) (Reps.one (show Kd.FK (Kd.slice 24 k24) _ _ y299 [.slice Ao28 y299.length co28] from (Kd.FK_slice_mk (Kd.V_reads' (Kd.V_mono (ok' := (fun k_ => (P0_0_ k_ ∨ w.heap.size ≤ k_) ∧ k_ ≠ gb298)) (HO303.out) (fun k_ hk => ⟨hk.1, hk.2⟩))).2.1 (Kd.V_F (Kd.V_mono (ok' := (fun k_ => (P0_0_ k_ ∨ w.heap.size ≤ k_) ∧ k_ ≠ gb298)) (HO303.out) (fun k_ hk => ⟨hk.1, hk.2⟩))))) (Reps.one (show Kd.FK (Kd.slice 24 k24) _ _ [] [.slice none 0 0] from (Kd.FK_slice_mk (Nat.le_refl _) (Kd.F_nil _ _ _))) (Reps.none _ _))))))
       intro v305 w30 ho31 hb hg_ hnew_
       clear hg_ hnew_
       (first | rw [← Ny304.out] at ho31 | (simp only [Int.reduceToNat] at ho31; rw [← Ny304.out] at ho31))
       replace HO_299000 := aM_ (Kd.V_elder' (by (with_reducible repeat (first | apply Kd.V_alloc | apply Kd.V_drewN | apply Kd.V_drew)); exact HO_299000.out) (Kd.N_base ho31) hb)
       replace HO303 := aM_ (Kd.V_elder' (by (with_reducible repeat (first | apply Kd.V_alloc | apply Kd.V_drewN | apply Kd.V_drew)); exact HO303.out) (Kd.N_base ho31) hb)
       replace HO306 := aM_ (Kd.N_lower ho31 (bY_ (bs_ HB GE298)))
       replace BK298 := aM_ (kB_ (rB_ BK298) hb)
       replace HB := aM_ (bT_ (bs_ HB GE298) hb)
       clear HO_3
       clear hb ho31
       refine hK.out _ _ ⟨(bC_ BK298.out 0).trans rfl, (bC_ BK298.out 1).trans rfl, (bC_ BK298.out 2).trans rfl, (bC_ BK298.out 3).trans rfl, (bC_ BK298.out 4).trans rfl, (bC_ BK298.out 5).trans rfl, (bC_ BK298.out 6).trans rfl, (bC_ BK298.out 7).trans rfl⟩ (fun hHeld => ?_)
       clear hK K
       refine norm_ (a' := ?_) ?_ ?_
       rotate_left
       ·show Act.put _ (some 40) _ = _
        simp only [Act.put, List.setIfInBounds_toArray, List.set_cons_zero, List.set_cons_succ, i64_w, i32_w]
        rfl
       refine pure_ (i := 9) (N := some 2) (v := ?_) (a' := ?_) #[true, true, true, true, true, true, true, true, true, true] rfl rfl (any_of HT_.out (by kernel_rfl)) (fun _ _ _ h => h) (Or.inl ⟨by rfl, ?_⟩) ?_ ?_
       rotate_left
       ·intro w'
        go_simp
        with_reducible rfl
       rotate_left
       ·simp only [Act.put, List.setIfInBounds_toArray, List.set_cons_zero, List.set_cons_succ, i64_w, i32_w]
        rfl
       refine done_ (done_of HT_.out (by kernel_rfl)) ?_
       try go_wp2
       go_ret
       exact ⟨_, by first | rfl | (simp [eN_, eS_] <;> rfl) | (simp only [← hji24]; first | rfl | (simp [eN_, eS_] <;> rfl)) | (simp [*, eN_, eS_] <;> rfl), by (with_reducible repeat (first | apply Kd.N_alloc | apply Kd.N_drewN | apply Kd.N_drew)); exact Kd.N_mono HO306.out (fun _ hk => hk.1), bs_ HB GE298⟩
      rw [if_neg c26] at H
      exact absurd H (by simp)
     rw [if_neg c25] at H
     exact absurd H (by simp)
end
section
def okI (x : S24) : Bool := insOk x.f0 x.f1 x.f2 x.f3 x.f4 x.f5
def endsOp (op : Int) : Bool := decide (28 ≤ op) && decide (op ≤ 33)
def plainI (x : S24) : Bool := okI x && (!endsOp x.f0 && (x.f0 != 0))
theorem ins_parts {op d a b imm : Int} {s : ByteArray} (h : insOk op d a b imm s = true) : (0 ≤ op ∧ op ≤ 33) ∧ regOk (hasD (formOf op)) d = true ∧ regOk (hasA (formOf op)) a = true ∧ regOk (hasB (formOf op)) b = true ∧ immOk (formOf op) imm s = true := by
  unfold insOk at h
  simpa [and_assoc] using h
theorem ends_eq (op : Int) : isa_Ends.f op = some (endsOp op) := by
  unfold isa_Ends.f endsOp
  by_cases h : 28 ≤ op <;> simp [h]
theorem rends_eq (op : Int) : r3_Ends.f op = some (endsOp op) := by
  unfold r3_Ends.f r0_Between.f endsOp
  by_cases h : 28 ≤ op <;> simp [h]
theorem plain_eq {k : Nat} (hk : 60 ≤ k) (x : S24) : block_Plain.f k x.f0 x.f1 x.f2 x.f3 x.f4 x.f5 = some (plainI x) := by
  unfold block_Plain.f plainI okI
  rw [isa_ins_eq (by omega)]
  simp only [Option.bind_some, ends_eq]
  cases insOk x.f0 x.f1 x.f2 x.f3 x.f4 x.f5 <;> cases endsOp x.f0 <;> simp
theorem may1_eq {k : Nat} (hk : 60 ≤ k) (x : S24) : dag_May_1.f k x.f0 x.f1 x.f2 x.f3 x.f4 x.f5 = some (!plainI x) := by
  unfold dag_May_1.f
  rw [plain_eq hk]; rfl
def allPlain (l : List S24) : Bool := l.all plainI
def mayL (l : List S24) : Bool := decide (l.length ≤ 200) && allPlain l
theorem rd_at (l : List S24) (i : Nat) (h : i < l.length) : J24 l (i : Int) = l[i] := by
  unfold J24
  rw [Int.toNat_natCast, List.getD_eq_getElem?_getD, List.getElem?_eq_getElem h]; rfl
theorem wrap_at {n : Nat} (h : n ≤ 1000000000000) : wrap64 ((n : Int) + 1) = ((n + 1 : Nat) : Int) := by unfold wrap64; omega
theorem idx_loop (l : List S24) (hl : l.length ≤ 1000000000) : ∀ (d : Nat) (k i : Nat), i + d = l.length → 61 + d ≤ k →
    ∃ r, aI89_114089.l0 k l (l.length : Int) (i : Int) = some r ∧ (decide (r ≥ 0) = !((l.drop i).all plainI))
  | 0, k, i, hi, hk => by
    obtain ⟨k, rfl⟩ : ∃ k', k = k' + 1 := ⟨k - 1, by omega⟩
    refine ⟨-1, ?_, ?_⟩
    · unfold aI89_114089.l0
      rw [if_neg (by omega)]
    · rw [List.drop_of_length_le (by omega)]; simp
  | d + 1, k, i, hi, hk => by
    obtain ⟨k, rfl⟩ : ∃ k', k = k' + 1 := ⟨k - 1, by omega⟩
    have hlt : i < l.length := by omega
    unfold aI89_114089.l0
    rw [if_pos (by omega), if_pos (by omega), if_pos (by omega), may1_eq (by omega), wrap_at (by omega), rd_at l i hlt, List.drop_eq_getElem_cons hlt]
    simp only [Option.bind_some, List.all_cons]
    cases hp : plainI l[i] with
    | false => exact ⟨_, rfl, by simp⟩
    | true =>
      simp only [Bool.not_true, Bool.false_eq_true, if_false, Bool.true_and]
      exact idx_loop l hl d k (i + 1) (by omega) (by omega)
theorem may_eq {k : Nat} (l : List S24) (hl : l.length ≤ 1000000000) (hk : 300 ≤ k) : dag_May.f k l = some (mayL l) := by
  unfold dag_May.f mayL
  by_cases h : l.length ≤ 200
  · rw [if_pos (by omega)]
    unfold aI89_88089.f aI89_114089.f
    obtain ⟨r, h1, h2⟩ := idx_loop l hl l.length k 0 (by omega) (by omega)
    rw [show ((0 : Nat) : Int) = 0 from rfl] at h1
    rw [h1]
    simp only [Option.bind_some, h2, List.drop_zero]
    unfold allPlain
    simp [h]
  · rw [if_neg (by omega)]; simp [h]
theorem straight_loop (l : List S24) (hl : l.length ≤ 1000000000) : ∀ (d : Nat) (k i : Nat), i + d = min l.length 201 → 70 + 3 * d ≤ k →
    r13_Straight.l0 k l (i : Int) = some (decide (l.length ≤ 200) && ((l.take 201).drop i).all plainI)
  | 0, k, i, hi, hk => by
    obtain ⟨k, rfl⟩ : ∃ k', k = k' + 2 := ⟨k - 2, by omega⟩
    rw [List.drop_of_length_le (by simp; omega)]
    unfold r13_Straight.l0
    by_cases h : (i : Int) < (l.length : Int)
    · rw [if_pos h, show decide ((i : Int) ≤ 200) = false from decide_eq_false (by omega)]
      unfold r13_Straight.j1
      simp; omega
    · rw [if_neg h]
      unfold r13_Straight.j1
      simp; omega
  | d + 1, k, i, hi, hk => by
    obtain ⟨k, rfl⟩ : ∃ k', k = k' + 3 := ⟨k - 3, by omega⟩
    have hlt : i < l.length := by omega
    have hlt2 : i < (l.take 201).length := by simp; omega
    unfold r13_Straight.l0
    rw [if_pos (by omega), show decide ((i : Int) ≤ 200) = true from decide_eq_true (by omega)]
    unfold r13_Straight.j1
    rw [if_pos rfl, if_pos (by omega), if_pos (by omega), ref_ins_eq (by omega), rd_at l i hlt, List.drop_eq_getElem_cons hlt2]
    simp only [Option.bind_some, List.all_cons, List.getElem_take, rends_eq]
    have ih := straight_loop l hl d k (i + 1) (by omega) (by omega)
    unfold r13_Straight.j2
    rw [wrap_at (by omega), ih]
    unfold plainI okI
    cases h1 : insOk l[i].f0 l[i].f1 l[i].f2 l[i].f3 l[i].f4 l[i].f5
    · simp
    · by_cases h2 : l[i].f0 = 0
      · simp [h2]
      · have h4 : (l[i].f0 != 0) = true := by simp [h2]
        cases h3 : endsOp l[i].f0 <;> simp [h2, h3, h4]
theorem straight_eq {k : Nat} (l : List S24) (hl : l.length ≤ 1000000000) (hk : 700 ≤ k) : r13_Straight.f k l = some (mayL l) := by
  unfold r13_Straight.f mayL allPlain
  rw [show (0 : Int) = ((0 : Nat) : Int) from rfl, straight_loop l hl (min l.length 201) k 0 (by omega) (by omega)]
  by_cases h : l.length ≤ 200
  · rw [List.take_of_length_le (by omega), List.drop_zero]
  · simp [h]
def effOp (op : Int) : Bool := op == 16 || (op == 17 || ((decide (24 ≤ op) && decide (op ≤ 27)) || (decide (31 ≤ op) && decide (op ≤ 33))))
def lateOp (op : Int) : Int := if op = 14 ∨ op = 15 ∨ op = 26 then 2 else if op = 20 ∨ op = 24 then 3 else if op = 16 ∨ op = 17 then 4 else 1
theorem eff_eq {k : Nat} (hk : 5 ≤ k) (op : Int) (h0 : 0 ≤ op) (h1 : op ≤ 33) : isa_Effect.f k op = some (effOp op) :=
  at_rounds (isa_Effect.mono op) hk (upto34 (p := fun op => isa_Effect.f 5 op = some (effOp op)) (by decide) op h0 h1)
theorem reff_eq (op : Int) (h0 : 0 ≤ op) (h1 : op ≤ 33) : r3_Effect.f op = some (effOp op) :=
  upto34 (p := fun op => r3_Effect.f op = some (effOp op)) (by decide) op h0 h1
theorem late_eq {k : Nat} (hk : 5 ≤ k) (op : Int) (h0 : 0 ≤ op) (h1 : op ≤ 33) : isa_Late.f k op = some (lateOp op) :=
  at_rounds (isa_Late.mono op) hk (upto34 (p := fun op => isa_Late.f 5 op = some (lateOp op)) (by decide) op h0 h1)
theorem rlate_eq {k : Nat} (hk : 5 ≤ k) (op : Int) (h0 : 0 ≤ op) (h1 : op ≤ 33) : r3_Latency.f k op = some (lateOp op) :=
  at_rounds (r3_Latency.mono op) hk (upto34 (p := fun op => r3_Latency.f 5 op = some (lateOp op)) (by decide) op h0 h1)
def readsL (x : S24) : List Int := (if hasA (formOf x.f0) = true then [x.f2] else []) ++ (if hasB (formOf x.f0) = true then [x.f3] else [])
theorem readsL_len (x : S24) : (readsL x).length ≤ 2 := by
  unfold readsL
  cases hasA (formOf x.f0) <;> cases hasB (formOf x.f0) <;> simp
theorem read_eq {k : Nat} (hk : 12 ≤ k) (x : S24) (h0 : 0 ≤ x.f0) (h1 : x.f0 ≤ 33) : isa_Read.f k x.f0 x.f1 x.f2 x.f3 x.f4 x.f5 = some (readsL x) := by
  obtain ⟨k, rfl⟩ : ∃ k', k = k' + 1 := ⟨k - 1, by omega⟩
  obtain ⟨f0, f1⟩ := formOf_range x.f0 h0 h1
  unfold isa_Read.f readsL
  rw [shape_eq (by omega) _ h0 h1]
  simp only [Option.bind_some]
  rw [isa_hasA (by omega) _ f0 f1]
  simp only [Option.bind_some]
  unfold isa_Read.j0
  simp only [isa_hasB _ f0 f1, Option.bind_some]
  cases hasA (formOf x.f0) <;> cases hasB (formOf x.f0) <;> simp
def rdsP (x y : S24) : Bool := hasD (formOf y.f0) && (readsL x).any (fun r => y.f1 == r)
theorem writes_eq {k : Nat} (hk : 12 ≤ k) (y : S24) (r : Int) (h0 : 0 ≤ y.f0) (h1 : y.f0 ≤ 33) : dag_writes.f k y.f0 y.f1 y.f2 y.f3 y.f4 y.f5 r = some (hasD (formOf y.f0) && y.f1 == r) := by
  obtain ⟨f0, f1⟩ := formOf_range y.f0 h0 h1
  unfold dag_writes.f
  rw [shape_eq (by omega) _ h0 h1]
  simp only [Option.bind_some, isa_hasD _ f0 f1]
  cases hasD (formOf y.f0) <;> simp
theorem reads1_eq {k : Nat} (hk : 12 ≤ k) (y : S24) (r : Int) (h0 : 0 ≤ y.f0) (h1 : y.f0 ≤ 33) : dag_reads_1.f k r y.f0 y.f1 y.f2 y.f3 y.f4 y.f5 = some (hasD (formOf y.f0) && y.f1 == r, y.f0, y.f1, y.f2, y.f3, y.f4, y.f5) := by
  unfold dag_reads_1.f
  rw [writes_eq hk y r h0 h1]; rfl
theorem index_loop (rs : List Int) (hl : rs.length ≤ 1000) (y : S24) (h0 : 0 ≤ y.f0) (h1 : y.f0 ≤ 33) : ∀ (d : Nat) (k i : Nat), i + d = rs.length → 13 + d ≤ k →
    ∃ r, sI_121.l0 k rs (rs.length : Int) (i : Int) y.f0 y.f1 y.f2 y.f3 y.f4 y.f5 = some (r, y.f0, y.f1, y.f2, y.f3, y.f4, y.f5) ∧ (decide (r ≥ 0) = (hasD (formOf y.f0) && (rs.drop i).any (fun r => y.f1 == r)))
  | 0, k, i, hi, hk => by
    obtain ⟨k, rfl⟩ : ∃ k', k = k' + 1 := ⟨k - 1, by omega⟩
    refine ⟨-1, ?_, ?_⟩
    · unfold sI_121.l0
      rw [if_neg (by omega)]
    · rw [List.drop_of_length_le (by omega)]; simp
  | d + 1, k, i, hi, hk => by
    obtain ⟨k, rfl⟩ : ∃ k', k = k' + 1 := ⟨k - 1, by omega⟩
    have hlt : i < rs.length := by omega
    have hr : rd rs (i : Int) = rs[i] := by
      unfold rd
      rw [Int.toNat_natCast, List.getD_eq_getElem?_getD, List.getElem?_eq_getElem hlt]; rfl
    unfold sI_121.l0
    rw [if_pos (by omega), if_pos (by omega), if_pos (by omega), reads1_eq (by omega) y _ h0 h1, wrap_at (by omega), hr, List.drop_eq_getElem_cons hlt]
    simp only [Option.bind_some, List.any_cons]
    obtain ⟨r, h2, h3⟩ := index_loop rs hl y h0 h1 d k (i + 1) (by omega) (by omega)
    cases hd : hasD (formOf y.f0) with
    | false =>
      rw [hd] at h3
      simp only [Bool.false_and, Bool.false_eq_true, if_false]
      exact ⟨r, h2, by simpa using h3⟩
    | true =>
      rw [hd] at h3
      cases hp : (y.f1 == rs[i]) with
      | false =>
        simp only [Bool.and_false, Bool.false_eq_true, if_false, Bool.true_and, Bool.false_or]
        exact ⟨r, h2, by simpa using h3⟩
      | true => exact ⟨(i : Int), by simp, by simp⟩
theorem reads_eq {k : Nat} (hk : 30 ≤ k) (x y : S24) (hx : 0 ≤ x.f0 ∧ x.f0 ≤ 33) (hy : 0 ≤ y.f0 ∧ y.f0 ≤ 33) : dag_reads.f k x.f0 x.f1 x.f2 x.f3 x.f4 x.f5 y.f0 y.f1 y.f2 y.f3 y.f4 y.f5 = some (rdsP x y) := by
  unfold dag_reads.f rdsP
  rw [read_eq (by omega) x hx.1 hx.2]
  simp only [Option.bind_some]
  unfold sC_121.f sI_121.f
  obtain ⟨r, h1, h2⟩ := index_loop (readsL x) (by have := readsL_len x; omega) y hy.1 hy.2 (readsL x).length k 0 (by omega) (by have := readsL_len x; omega)
  rw [show ((0 : Nat) : Int) = 0 from rfl] at h1
  rw [h1]
  simp only [Option.bind_some, List.drop_zero] at h2 ⊢
  rw [h2]
def dist (x y : S24) : Int :=
  let d := if effOp x.f0 = true ∧ effOp y.f0 = true then 1 else if rdsP x y = true then 0 else -1
  if rdsP y x = true ∨ (hasD (formOf y.f0) = true ∧ hasD (formOf x.f0) = true ∧ x.f1 = y.f1) then mx d (lateOp x.f0) else d
theorem dist_eq {k : Nat} (hk : 40 ≤ k) (x y : S24) (hx : 0 ≤ x.f0 ∧ x.f0 ≤ 33) (hy : 0 ≤ y.f0 ∧ y.f0 ≤ 33) : dag_dist.f k x.f0 x.f1 x.f2 x.f3 x.f4 x.f5 y.f0 y.f1 y.f2 y.f3 y.f4 y.f5 = some (dist x y) := by
  obtain ⟨k, rfl⟩ : ∃ k', k = k' + 4 := ⟨k - 4, by omega⟩
  obtain ⟨f0, f1⟩ := formOf_range y.f0 hy.1 hy.2
  unfold dag_dist.f dag_dist.j0 dag_dist.j1 dag_dist.j2 dag_dist.j3
  rw [reads_eq (by omega) x y hx hy]
  simp only [Option.bind_some]
  rw [eff_eq (by omega) _ hx.1 hx.2, eff_eq (by omega) _ hy.1 hy.2, reads_eq (by omega) y x hy hx, shape_eq (by omega) _ hy.1 hy.2]
  simp only [Option.bind_some, isa_hasD _ f0 f1]
  rw [writes_eq (by omega) x _ hx.1 hx.2, late_eq (by omega) _ hx.1 hx.2]
  unfold dist
  cases rdsP x y <;> cases effOp x.f0 <;> cases effOp y.f0 <;> cases rdsP y x <;> cases hasD (formOf y.f0) <;> cases hasD (formOf x.f0) <;> by_cases h : x.f1 = y.f1 <;> simp [h]
theorem okI_op {x : S24} (h : okI x = true) : 0 ≤ x.f0 ∧ x.f0 ≤ 33 := (ins_parts h).1
def edgesSeg (l : List S24) (i : Nat) : Nat → Nat → List S51
  | _, 0 => []
  | j, d + 1 => (if 0 ≤ dist (J24 l i) (J24 l j) then [(⟨(i : Int), (j : Int), dist (J24 l i) (J24 l j)⟩ : S51)] else []) ++ edgesSeg l i (j + 1) d
def edgesFrom (l : List S24) (i : Nat) : List S51 := edgesSeg l i (i + 1) (l.length - (i + 1))
def edgesUp (l : List S24) : Nat → Nat → List S51
  | _, 0 => []
  | i, d + 1 => edgesFrom l i ++ edgesUp l (i + 1) d
theorem edgesUp_succ (l : List S24) (i d : Nat) : edgesUp l i (d + 1) = edgesFrom l i ++ edgesUp l (i + 1) d := rfl
def edges (l : List S24) : List S51 := edgesUp l 0 l.length
theorem edgesSeg_len (l : List S24) (i : Nat) : ∀ (d j : Nat), (edgesSeg l i j d).length ≤ d
  | 0, _ => by simp [edgesSeg]
  | d + 1, j => by
    have := edgesSeg_len l i d (j + 1)
    unfold edgesSeg
    split <;> simp <;> omega
def okL (l : List S24) : Prop := ∀ i : Nat, i < l.length → okI (J24 l i) = true
theorem rd_drop (l : List S24) (i j : Nat) (h : i + j < l.length) : J24 (l.drop i) (j : Int) = J24 l ((i + j : Nat) : Int) := by
  rw [rd_at _ _ (by simp; omega), rd_at _ _ h]
  simp
theorem own_l1 (l : List S24) (hl : l.length ≤ 1000) (ho : okL l) (i : Nat) (hi : i < l.length) : ∀ (d k : Nat) (acc : List S51) (j : Nat), 50 ≤ k → i + 1 + j + d = l.length → acc.length + d ≤ 1000000000 →
    dag_Edges.l1 (k + d + 1) l acc (i : Int) l (l.length : Int) (i : Int) (l.drop (i + 1)) ((l.drop (i + 1)).length : Int) (j : Int) (J24 l i).f0 (J24 l i).f1 (J24 l i).f2 (J24 l i).f3 (J24 l i).f4 (J24 l i).f5 = dag_Edges.l0 k l (acc ++ edgesSeg l i (i + 1 + j) d) l (l.length : Int) ((i + 1 : Nat) : Int)
  | 0, k, acc, j, hk, hj, hb => by
    unfold dag_Edges.l1
    rw [if_neg (by rw [List.length_drop]; omega), wrap_at (by omega)]
    simp [edgesSeg]
  | d + 1, k, acc, j, hk, hj, hb => by
    have hlt : i + 1 + j < l.length := by omega
    rw [show k + (d + 1) + 1 = (k + d + 1) + 1 by omega]
    unfold dag_Edges.l1
    rw [if_pos (by rw [List.length_drop]; omega), if_pos (by omega), if_pos (by rw [List.length_drop]; omega), rd_drop l (i + 1) j (by omega), dist_eq (by omega) _ _ (okI_op (ho i hi)) (okI_op (ho _ hlt)), wrap_at (n := j) (by omega), wrap_at (n := i) (by omega)]
    simp only [Option.bind_some]
    have e1 : wrap64 (((i + 1 : Nat) : Int) + (j : Int)) = ((i + 1 + j : Nat) : Int) := by unfold wrap64; omega
    rw [e1]
    unfold edgesSeg
    by_cases h : 0 ≤ dist (J24 l i) (J24 l ((i + 1 + j : Nat) : Int))
    · rw [if_pos h, if_pos (by omega), if_pos h, own_l1 l hl ho i hi d k _ (j + 1) hk (by omega) (by simp; omega)]
      simp [Nat.add_assoc]
    · rw [if_neg h, if_neg h, own_l1 l hl ho i hi d k _ (j + 1) hk (by omega) (by omega)]
      simp [Nat.add_assoc]
theorem own_l0 (l : List S24) (hl : l.length ≤ 1000) (ho : okL l) : ∀ (d k : Nat) (acc : List S51) (i : Nat), i + d = l.length → 60 + d * (l.length + 2) ≤ k → acc.length + d * l.length ≤ 100000000 →
    dag_Edges.l0 k l acc l (l.length : Int) (i : Int) = some (acc ++ edgesUp l i d)
  | 0, k, acc, i, hi, hk, hb => by
    obtain ⟨k, rfl⟩ : ∃ k', k = k' + 1 := ⟨k - 1, by omega⟩
    unfold dag_Edges.l0
    rw [if_neg (by omega)]
    simp [edgesUp]
  | d + 1, k, acc, i, hi, hk, hb => by
    have e1 : (d + 1) * (l.length + 2) = d * (l.length + 2) + (l.length + 2) := Nat.succ_mul _ _
    have e2 : (d + 1) * l.length = d * l.length + l.length := Nat.succ_mul _ _
    obtain ⟨k, rfl⟩ : ∃ k', k = (k' + (l.length - (i + 1)) + 1) + 1 := ⟨k - (l.length - (i + 1)) - 2, by omega⟩
    unfold dag_Edges.l0
    rw [if_pos (by omega), if_pos (by omega), if_pos (by omega), wrap_at (by omega), if_pos (by omega), if_pos (by omega)]
    simp only [Option.bind_some, Int.toNat_natCast]
    have h4 := own_l1 l hl ho i (by omega) (l.length - (i + 1)) k acc 0 (by omega) (by omega) (by omega)
    rw [show ((0 : Nat) : Int) = 0 from rfl] at h4
    rw [h4]
    have h3 := edgesSeg_len l i (l.length - (i + 1)) (i + 1)
    rw [own_l0 l hl ho d k _ (i + 1) (by omega) (by omega) (by simp; omega)]
    rw [edgesUp_succ]
    unfold edgesFrom
    simp
theorem own_edges {k : Nat} (l : List S24) (hl : l.length ≤ 200) (ho : okL l) (hk : 50000 ≤ k) : dag_Edges.f k l = some (edges l) := by
  have hm : l.length * (l.length + 2) ≤ 200 * 202 := Nat.mul_le_mul hl (by omega)
  have hm2 : l.length * l.length ≤ 200 * 200 := Nat.mul_le_mul hl hl
  unfold dag_Edges.f edges
  rw [show (0 : Int) = ((0 : Nat) : Int) from rfl, own_l0 l (by omega) ho l.length k [] 0 (by omega) (by omega) (by simp; omega)]
  simp
end
section
attribute [local go_sem] max2_int min2_int max_two min_two max_three min_three max_four min_four
theorem eqA24 (d : Nat) (w : World) (x0 y0 : Int) (x1 y1 : Int) (x2 y2 : Int) (x3 y3 : Int) (x4 y4 : Int) (x5 y5 : ByteArray) :
    (Op.equalIn (d + 2) 24 (.agg #[.int .i64 x0, .int .i64 x1, .int .i64 x2, .int .i64 x3, .int .i64 x4, .string x5]) (.agg #[.int .i64 y0, .int .i64 y1, .int .i64 y2, .int .i64 y3, .int .i64 y4, .string y5])).run Try.prog w = .ok (x0 == y0 && (x1 == y1 && (x2 == y2 && (x3 == y3 && (x4 == y4 && (x5.toList == y5.toList)))))) w := by
 refine eqA_of Try.underlying24 (by kernel_rfl) ?_
 refine eqf_cons (by rfl) (by go_simp; rfl) (by go_simp; rfl) (by go_simp) ?_
 refine eqf_cons (by rfl) (by go_simp; rfl) (by go_simp; rfl) (by go_simp) ?_
 refine eqf_cons (by rfl) (by go_simp; rfl) (by go_simp; rfl) (by go_simp) ?_
 refine eqf_cons (by rfl) (by go_simp; rfl) (by go_simp; rfl) (by go_simp) ?_
 refine eqf_cons (by rfl) (by go_simp; rfl) (by go_simp; rfl) (by go_simp) ?_
 exact eqf_last (by rfl) (by go_simp; rfl) (by go_simp; rfl) (by go_simp)
end
end Go.Proofs.Ytibfkkjkahpobaa.PDag
