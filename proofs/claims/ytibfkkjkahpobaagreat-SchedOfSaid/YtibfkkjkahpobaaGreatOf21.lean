import Derived.Test.YtibfkkjkahpobaaGreatOf15
import Derived.Test.YtibfkkjkahpobaaGreatOf18
set_option linter.unusedVariables false
set_option linter.unusedSimpArgs false
set_option maxHeartbeats 8000000
set_option maxRecDepth 100000
open Go.RowKit Go.Proofs.YtibfkkjkahpobaaGreatW.PrintWords Go.Proofs.YtibfkkjkahpobaaGreatW.PrintLast Go.Proofs.YtibfkkjkahpobaaGreatW.PrintMore
namespace Go.Proofs.YtibfkkjkahpobaaGreat.PDag
section
attribute [local go_sem] max2_int min2_int max_two min_two max_three min_three max_four min_four
mutual
def r3_Latency.j0 : Nat → Int → Bool → Option (Int)
  | 0, _, _ => none
  | k + 1, x3, x4 => if x4 = true then (some 2) else (if x3 = 20 then (r3_Latency.j1 k x3 (x3 == 20)) else (r3_Latency.j1 k x3 (x3 == 24)))
def r3_Latency.j1 : Nat → Int → Bool → Option (Int)
  | 0, _, _ => none
  | k + 1, x3, x8 => if x8 = true then (some 3) else (if x3 = 16 then (r3_Latency.j2 k (x3 == 16)) else (r3_Latency.j2 k (x3 == 17)))
def r3_Latency.j2 : Nat → Bool → Option (Int)
  | 0, _ => none
  | k + 1, x11 => if x11 = true then (some 4) else (some 1)
end
def r3_Latency.f (k : Nat) (a0 : Int) : Option (Int) := if a0 = 14 then (r3_Latency.j0 k a0 (a0 == 14)) else (if a0 = 15 then (r3_Latency.j0 k a0 (a0 == 15)) else (r3_Latency.j0 k a0 (a0 == 26)))
theorem r3_Latency.mono_l : ∀ k, (∀ y0 y1, LeO (r3_Latency.j0 k y0 y1) (r3_Latency.j0 (k + 1) y0 y1)) ∧ (∀ y0 y1, LeO (r3_Latency.j1 k y0 y1) (r3_Latency.j1 (k + 1) y0 y1)) ∧ (∀ y0, LeO (r3_Latency.j2 k y0) (r3_Latency.j2 (k + 1) y0))
  | 0 => ⟨fun _ _ r h => by simp [r3_Latency.j0] at h, fun _ _ r h => by simp [r3_Latency.j1] at h, fun _ r h => by simp [r3_Latency.j2] at h⟩
  | k + 1 => by
    obtain ⟨ih0, ih1, ih2⟩ := r3_Latency.mono_l k; refine ⟨?_, ?_, ?_⟩
    · intro y0 y1; unfold r3_Latency.j0
      repeat' first
      | (with_reducible exact ih0 _ _)
      | (with_reducible exact ih1 _ _)
      | (with_reducible exact ih2 _)
      | (with_reducible exact LeO.refl _)
      | (with_reducible exact LeO.none _)
      | (with_reducible refine LeO.ite ?_ ?_)
      | (with_reducible refine LeO.bind ?_ (fun _ => ?_))
      | exact LeO.none _
      | refine LeO.ite ?_ ?_
      | refine LeO.bind ?_ (fun _ => ?_)
    · intro y0 y1; unfold r3_Latency.j1
      repeat' first
      | (with_reducible exact ih0 _ _)
      | (with_reducible exact ih1 _ _)
      | (with_reducible exact ih2 _)
      | (with_reducible exact LeO.refl _)
      | (with_reducible exact LeO.none _)
      | (with_reducible refine LeO.ite ?_ ?_)
      | (with_reducible refine LeO.bind ?_ (fun _ => ?_))
      | exact LeO.none _
      | refine LeO.ite ?_ ?_
      | refine LeO.bind ?_ (fun _ => ?_)
    · intro y0; unfold r3_Latency.j2
      repeat' first
      | (with_reducible exact ih0 _ _)
      | (with_reducible exact ih1 _ _)
      | (with_reducible exact ih2 _)
      | (with_reducible exact LeO.refl _)
      | (with_reducible exact LeO.none _)
      | (with_reducible refine LeO.ite ?_ ?_)
      | (with_reducible refine LeO.bind ?_ (fun _ => ?_))
      | exact LeO.none _
      | refine LeO.ite ?_ ?_
      | refine LeO.bind ?_ (fun _ => ?_)
theorem r3_Latency.mono : ∀ a0 k, LeO (r3_Latency.f k a0) (r3_Latency.f (k + 1) a0) := by
 intro a0 k; obtain ⟨ih0, ih1, ih2⟩ := r3_Latency.mono_l k; unfold r3_Latency.f
 repeat' first
  | (with_reducible exact ih0 _ _)
  | (with_reducible exact ih1 _ _)
  | (with_reducible exact ih2 _)
  | (with_reducible exact LeO.refl _)
  | (with_reducible exact LeO.none _)
  | (with_reducible refine LeO.ite ?_ ?_)
  | (with_reducible refine LeO.bind ?_ (fun _ => ?_))
  | exact LeO.none _
  | refine LeO.ite ?_ ?_
  | refine LeO.bind ?_ (fun _ => ?_)
theorem r3_Latency.calls (k : Nat) (a0 : Int) (r : Int) (w : World) (h : r3_Latency.f k a0 = some r) :
    Calls Tryz.prog 40 #[.int .i64 a0] w fun e w' => e = .returned (.int .i64 r) ∧ Dr_ w w' := by
 have H : (if a0 = 14 then (r3_Latency.j0 k a0 (a0 == 14)) else (if a0 = 15 then (r3_Latency.j0 k a0 (a0 == 15)) else (r3_Latency.j0 k a0 (a0 == 26)))) = some r := h; clear h; have HC2 := aM_ H; clear H; go_enter Tryz.func40, Tryz.ntmps40
 go_upto_if 4 with (fail)
 go_cut [4] (fun v4 wc => ∃ (kq : Nat) (x4_1 : Bool), v4 = .bool x4_1 ∧ As_ (r3_Latency.j0 kq a0 x4_1 = some r) ∧ As_ (kq ≤ k) ∧ Dr_ w wc)
 case first =>
  have H := HC2.out; clear HC2
  by_cases c3 : a0 = 14
  ·rw [if_pos c3] at H; have c3b0 := bH_ c3; have c3b1 := bF_ c3; clear c3
   (first | rw [c3b0] | (simp only [i64_w, i32_w]; rw [c3b0]) | skip)
   replace H := aM_ H; go_wp2
   go_meet
   case rel => exact ⟨_, ((a0 == 14)), eQ_, H, ⟨by first | omega | exact Nat.le_refl _⟩, dR_⟩
  rw [if_neg c3] at H; have c3b0 := bE_ c3; have c3b1 := bG_ c3
  (first | rw [c3b0] | (simp only [i64_w, i32_w]; rw [c3b0]) | skip)
  by_cases c4 : a0 = 15
  ·rw [if_pos c4] at H; have c4b0 := bH_ c4; have c4b1 := bF_ c4; clear c4; replace H := aM_ H; go_wp2
   go_meet
   case rel => exact ⟨_, ((a0 == 15)), eQ_, H, ⟨by first | omega | exact Nat.le_refl _⟩, dR_⟩
  rw [if_neg c4] at H; have c4b0 := bE_ c4; have c4b1 := bG_ c4; replace H := aM_ H; go_wp2
  go_meet
  case rel => exact ⟨_, ((a0 == 26)), eQ_, H, ⟨by first | omega | exact Nat.le_refl _⟩, dR_⟩
 case rest =>
  clear HC2; obtain ⟨kq, x4_1, rfl, HA, HJ1, ⟨mc1, rfl⟩⟩ := hcut
  cases kq with
  | zero => exact absurd HA.out (by simp [r3_Latency.j0])
  | succ kj1 =>
   have H := HA.out; clear HA; simp only [r3_Latency.j0] at H
   by_cases c5 : x4_1 = true
   ·subst c5; rw [if_pos rfl] at H; obtain rfl := oI_ H; go_wp2; go_ret; exact ⟨eQ_, dR_⟩
   replace c5 := eF_ c5; subst c5; rw [if_neg Bool.false_ne_true] at H; have HC6 := aM_ H; clear H
   go_upto_if 8 with (fail)
   go_cut [8] (fun v8 wc => ∃ (kq : Nat) (x8_5 : Bool), v8 = .bool x8_5 ∧ As_ (r3_Latency.j1 kq a0 x8_5 = some r) ∧ As_ (kq ≤ kj1) ∧ Dr_ w wc)
   case first =>
    have H := HC6.out; clear HC6
    by_cases c7 : a0 = 20
    ·rw [if_pos c7] at H; have c7b0 := bH_ c7; have c7b1 := bF_ c7; clear c7
     (first | rw [c7b0] | (simp only [i64_w, i32_w]; rw [c7b0]) | skip)
     replace H := aM_ H; go_wp2
     go_meet
     case rel => exact ⟨_, ((a0 == 20)), eQ_, H, ⟨by have := HJ1.out; first | omega | exact Nat.le_refl _⟩, dR_⟩
    rw [if_neg c7] at H; have c7b0 := bE_ c7; have c7b1 := bG_ c7
    (first | rw [c7b0] | (simp only [i64_w, i32_w]; rw [c7b0]) | skip)
    replace H := aM_ H; go_wp2
    go_meet
    case rel => exact ⟨_, ((a0 == 24)), eQ_, H, ⟨by have := HJ1.out; first | omega | exact Nat.le_refl _⟩, dR_⟩
   case rest =>
    clear HC6; obtain ⟨kq, x8_5, rfl, HA, HJ5, ⟨mc5, rfl⟩⟩ := hcut
    cases kq with
    | zero => exact absurd HA.out (by simp [r3_Latency.j1])
    | succ kj5 =>
     have H := HA.out; clear HA; simp only [r3_Latency.j1] at H
     by_cases c8 : x8_5 = true
     ·subst c8; rw [if_pos rfl] at H; obtain rfl := oI_ H; go_wp2; go_ret; exact ⟨eQ_, dR_⟩
     replace c8 := eF_ c8; subst c8; rw [if_neg Bool.false_ne_true] at H; have HC9 := aM_ H; clear H
     go_upto_if 11 with (fail)
     go_cut [11] (fun v11 wc => ∃ (kq : Nat) (x11_8 : Bool), v11 = .bool x11_8 ∧ As_ (r3_Latency.j2 kq x11_8 = some r) ∧ As_ (kq ≤ kj5) ∧ Dr_ w wc)
     case first =>
      have H := HC9.out; clear HC9
      by_cases c10 : a0 = 16
      ·rw [if_pos c10] at H; have c10b0 := bH_ c10; have c10b1 := bF_ c10; clear c10
       (first | rw [c10b0] | (simp only [i64_w, i32_w]; rw [c10b0]) | skip)
       replace H := aM_ H; go_wp2
       go_meet
       case rel => exact ⟨_, ((a0 == 16)), eQ_, H, ⟨by have := HJ1.out; have := HJ5.out; first | omega | exact Nat.le_refl _⟩, dR_⟩
      rw [if_neg c10] at H; have c10b0 := bE_ c10; have c10b1 := bG_ c10
      (first | rw [c10b0] | (simp only [i64_w, i32_w]; rw [c10b0]) | skip)
      replace H := aM_ H; go_wp2
      go_meet
      case rel => exact ⟨_, ((a0 == 17)), eQ_, H, ⟨by have := HJ1.out; have := HJ5.out; first | omega | exact Nat.le_refl _⟩, dR_⟩
     case rest =>
      clear HC9; obtain ⟨kq, x11_8, rfl, HA, HJ8, ⟨mc8, rfl⟩⟩ := hcut
      cases kq with
      | zero => exact absurd HA.out (by simp [r3_Latency.j2])
      | succ kj8 =>
       have H := HA.out; clear HA; simp only [r3_Latency.j2] at H
       by_cases c11 : x11_8 = true
       ·subst c11; rw [if_pos rfl] at H; obtain rfl := oI_ H; go_wp2; go_ret; exact ⟨eQ_, dR_⟩
       replace c11 := eF_ c11; subst c11; rw [if_neg Bool.false_ne_true] at H; obtain rfl := oI_ H; go_wp2; go_ret; exact ⟨eQ_, dR_⟩
def r3_Writes.f (a0_0 : Int) (a0_1 : Int) (a0_2 : Int) (a0_3 : Int) (a0_4 : Int) (a0_5 : ByteArray) : Option (Int) := (r3_Form.f a0_0).bind fun t366 => ((r3_HasD.f t366).bind fun t367 => (if t367 = true then (some a0_1) else (some (-1))))
theorem r3_Writes.calls (a0_0 : Int) (a0_1 : Int) (a0_2 : Int) (a0_3 : Int) (a0_4 : Int) (a0_5 : ByteArray) (r : Int) (w : World) (h : r3_Writes.f a0_0 a0_1 a0_2 a0_3 a0_4 a0_5 = some r) :
    Calls Tryz.prog 77 #[.agg #[.int .i64 a0_0, .int .i64 a0_1, .int .i64 a0_2, .int .i64 a0_3, .int .i64 a0_4, .string a0_5]] w fun e w' => e = .returned (.int .i64 r) ∧ Below w.heap.size w w' := by
 have hu24 := Tryz.underlying24; have HB := aM_ (Below.refl w.heap.size w); have H : ((r3_Form.f a0_0).bind fun t366 => ((r3_HasD.f t366).bind fun t367 => (if t367 = true then (some a0_1) else (some (-1))))) = some r := h; clear h; obtain ⟨t366, A2, H⟩ := oB_ H; obtain ⟨t367, A3, H⟩ := oB_ H
 by_cases c4 : t367 = true
 ·subst c4; rw [if_pos rfl] at H; obtain rfl := oI_ H; go_enter Tryz.func77, Tryz.ntmps77
  go_wp2_with (first | ((with_reducible refine gate_dst (N := 1) rfl ?_); refine bX_ (N := 1) (cs := #[.int .i64 a0_0, .int .i64 a0_1, .int .i64 a0_2, .int .i64 a0_3, .int .i64 a0_4, .string a0_5]) (t := 24) ?_; intro gb365 hg w5 hbox hb; replace BK365 := aM_ (hbox); replace GW365 := aM_ (gE_ hg (bl_ HB)); replace GE365 := aM_ (gE_ hg (bl_ HB)); replace HB := aM_ (bT_ (bl_ HB) hb); clear hb hbox hg; obtain ⟨hcz6_0, hcz6_1, hcz6_2, hcz6_3, hcz6_4, hcz6_5⟩ := cl6_ BK365.out; obtain ⟨hfz6_0, hfz6_1, hfz6_2, hfz6_3, hfz6_4, hfz6_5⟩ := fz6_ BK365.out) | ((with_reducible refine gC_ (f := 67) rfl ?_); refine gL_ (some 5) Tryz.func67 #[.int .i64 a0_0] rfl ?_; (with_reducible refine (r3_Form.calls a0_0 t366 _ A2.out).mono ?_); rintro e w7 ⟨rfl, hb⟩; refine ⟨_, rfl, ?_⟩; replace BK365 := aM_ (kB_ (rB_ BK365) hb); replace HB := aM_ (bT_ (bs_ HB GE365) hb)) | ((with_reducible refine gC_ (f := 69) rfl ?_); refine gL_ (some 6) Tryz.func69 #[.int .i64 t366] rfl ?_; (with_reducible refine (r3_HasD.calls t366 true _ A3.out).mono ?_); rintro e w' ⟨rfl, ⟨nd, rfl⟩⟩; refine ⟨_, rfl, ?_⟩; obtain ⟨hcz8_0, hcz8_1, hcz8_2, hcz8_3, hcz8_4, hcz8_5⟩ := cl6_ BK365.out; obtain ⟨hfz8_0, hfz8_1, hfz8_2, hfz8_3, hfz8_4, hfz8_5⟩ := fz6_ BK365.out))
  go_ret; exact ⟨eR_, bs_ HB GE365⟩
 replace c4 := eF_ c4; subst c4; rw [if_neg Bool.false_ne_true] at H; obtain rfl := oI_ H; go_enter Tryz.func77, Tryz.ntmps77
 go_wp2_with (first | ((with_reducible refine gate_dst (N := 1) rfl ?_); refine bX_ (N := 1) (cs := #[.int .i64 a0_0, .int .i64 a0_1, .int .i64 a0_2, .int .i64 a0_3, .int .i64 a0_4, .string a0_5]) (t := 24) ?_; intro gb365 hg w9 hbox hb; replace BK365 := aM_ (hbox); replace GW365 := aM_ (gE_ hg (bl_ HB)); replace GE365 := aM_ (gE_ hg (bl_ HB)); replace HB := aM_ (bT_ (bl_ HB) hb); clear hb hbox hg; obtain ⟨hcz10_0, hcz10_1, hcz10_2, hcz10_3, hcz10_4, hcz10_5⟩ := cl6_ BK365.out; obtain ⟨hfz10_0, hfz10_1, hfz10_2, hfz10_3, hfz10_4, hfz10_5⟩ := fz6_ BK365.out) | ((with_reducible refine gC_ (f := 67) rfl ?_); refine gL_ (some 5) Tryz.func67 #[.int .i64 a0_0] rfl ?_; (with_reducible refine (r3_Form.calls a0_0 t366 _ A2.out).mono ?_); rintro e w11 ⟨rfl, hb⟩; refine ⟨_, rfl, ?_⟩; replace BK365 := aM_ (kB_ (rB_ BK365) hb); replace HB := aM_ (bT_ (bs_ HB GE365) hb)) | ((with_reducible refine gC_ (f := 69) rfl ?_); refine gL_ (some 6) Tryz.func69 #[.int .i64 t366] rfl ?_; (with_reducible refine (r3_HasD.calls t366 false _ A3.out).mono ?_); rintro e w' ⟨rfl, ⟨nd, rfl⟩⟩; refine ⟨_, rfl, ?_⟩))
 go_ret; exact ⟨eR_, bs_ HB GE365⟩
def r0_In.l0 : Nat → List Int → Int → Int → Option (Int)
  | 0, _, _, _ => none
  | k + 1, x0, x1, x5 => if x5 < (x0.length : Int) then (if 0 ≤ x5 then (if (rd x0 x5) = x1 then (some x5) else (r0_In.l0 k x0 x1 (wrap64 (x5 + 1)))) else (none)) else (some (-1))
def r0_In.f (k : Nat) (l0 : List Int) (a1 : Int) : Option (Int) := r0_In.l0 k l0 a1 0
theorem r0_In.calls (k : Nat) (A0 : Option Addr) (c0 : Nat) (l0 : List Int) (a1 : Int) (r : Int) (w : World) (hr0 : Kd.C (Kd.int .i64) w A0 l0.length l0) (hc0 : l0.length ≤ c0) (h : r0_In.f k l0 a1 = some r) :
    Calls Tryz.prog 78 #[.slice A0 l0.length c0, .int .i64 a1] w fun e w' => e = .returned (.int .i64 r) ∧ Dr_ w w' := by
 have HR0 := aM_ hr0; have HC0 := aM_ hc0; clear hr0 hc0; have H : (r0_In.l0 k l0 a1 0) = some r := h; clear h; replace H := aM_ H; go_enter Tryz.func78, Tryz.ntmps78; go_wp2
 go_loopg [5] k (fun kq v5 w' => ∃ (x5_1 : Int), v5 = .int .i64 x5_1 ∧ As_ (r0_In.l0 kq l0 a1 x5_1 = some r) ∧ As_ (kq ≤ k) ∧ Dr_ w w')
 case atStart => exact ⟨(0), eQ_, H, ⟨Nat.le_refl _⟩, dR_⟩
 case round =>
  clear H; obtain ⟨x5_1, rfl, HA, HK1, ⟨m1, rfl⟩⟩ := hrel
  cases gk with
  | zero => exact absurd HA.out (by simp [r0_In.l0])
  | succ k1 =>
   have H := HA.out; clear HA; simp only [r0_In.l0] at H
   by_cases c3 : x5_1 < (l0.length : Int)
   ·rw [if_pos c3] at H; have c3b0 := dE_ c3; clear c3
    by_cases c4 : 0 ≤ x5_1
    ·rw [if_pos c4] at H; have c4b0 := dE_ c4; clear c4
     by_cases c5 : (rd l0 x5_1) = a1
     ·rw [if_pos c5] at H; have c5b0 := bH_ c5; have c5b1 := bF_ c5; clear c5; obtain rfl := oI_ H; have p368 : 0 ≤ (x5_1 : Int) := oD_; have q368 : x5_1 < (l0.length : Int) := oD_; obtain ⟨ad368, e368, hx368_0⟩ := Kd.at_int HR0.out x5_1 p368 q368
      cases e368
      replace p368 := eq_true p368; replace q368 := eq_true q368; go_wp2; go_ret; exact ⟨eQ_, dR_⟩
     rw [if_neg c5] at H; have c5b0 := bE_ c5; have c5b1 := bG_ c5; replace H := aM_ H; have p368 : 0 ≤ (x5_1 : Int) := oD_; have q368 : x5_1 < (l0.length : Int) := oD_; obtain ⟨ad368, e368, hx368_0⟩ := Kd.at_int HR0.out x5_1 p368 q368
     cases e368
     replace p368 := eq_true p368; replace q368 := eq_true q368; go_wp2
     go_roundg k1
     case measure => have := HK1.out; omega
     case rel => exact ⟨(wrap64 (x5_1 + 1)), eQ_, H, ⟨by have := HK1.out; omega⟩, dR_⟩
    rw [if_neg c4] at H; exact absurd H (by simp)
   rw [if_neg c3] at H; have c3b0 := dF_ c3; clear c3; obtain rfl := oI_ H; go_wp2; go_ret; exact ⟨eQ_, dR_⟩
def r3_Reads.j0 : Nat → List Int → Int → Int → Int → Int → Int → Int → ByteArray → Option (List Int)
  | 0, _, _, _, _, _, _, _, _ => none
  | k + 1, x3, x4, x370a, x370b, x370c, x370d, x370e, x370f => (r3_HasB.f x4).bind fun t375 => (if t375 = true then (if x3.length < 17592186044416 then (some (x3 ++ [x370d])) else (none)) else (some x3))
def r3_Reads.f (k : Nat) (a0_0 : Int) (a0_1 : Int) (a0_2 : Int) (a0_3 : Int) (a0_4 : Int) (a0_5 : ByteArray) : Option (List Int) := (r3_Form.f a0_0).bind fun t370 => ((r3_HasA.f t370).bind fun t371 => (if t371 = true then (if ([] : List Int).length < 17592186044416 then (r3_Reads.j0 k (([] : List Int) ++ [a0_2]) t370 a0_0 a0_1 a0_2 a0_3 a0_4 a0_5) else (none)) else (r3_Reads.j0 k ([] : List Int) t370 a0_0 a0_1 a0_2 a0_3 a0_4 a0_5)))
theorem r3_Reads.calls (k : Nat) (a0_0 : Int) (a0_1 : Int) (a0_2 : Int) (a0_3 : Int) (a0_4 : Int) (a0_5 : ByteArray) (r : List Int) (w : World) (h : r3_Reads.f k a0_0 a0_1 a0_2 a0_3 a0_4 a0_5 = some r) :
    Calls Tryz.prog 79 #[.agg #[.int .i64 a0_0, .int .i64 a0_1, .int .i64 a0_2, .int .i64 a0_3, .int .i64 a0_4, .string a0_5]] w fun e w' => ∃ v0_ : Value, e = .returned (v0_) ∧ Kd.R (Kd.int .i64) 3 w' w.heap.size (fun _ => True) v0_ r ∧ Below w.heap.size w w' := by
 have hu24 := Tryz.underlying24; have HB := aM_ (Below.refl w.heap.size w); have H : ((r3_Form.f a0_0).bind fun t370 => ((r3_HasA.f t370).bind fun t371 => (if t371 = true then (if ([] : List Int).length < 17592186044416 then (r3_Reads.j0 k (([] : List Int) ++ [a0_2]) t370 a0_0 a0_1 a0_2 a0_3 a0_4 a0_5) else (none)) else (r3_Reads.j0 k ([] : List Int) t370 a0_0 a0_1 a0_2 a0_3 a0_4 a0_5)))) = some r := h; clear h; obtain ⟨t370, A2, H⟩ := oB_ H; obtain ⟨t371, A3, H⟩ := oB_ H; have HC4 := aM_ H; clear H; go_enter Tryz.func79, Tryz.ntmps79
 go_upto_if 9 with (first | ((with_reducible refine gate_dst (N := 1) rfl ?_); refine bX_ (N := 1) (cs := #[.int .i64 a0_0, .int .i64 a0_1, .int .i64 a0_2, .int .i64 a0_3, .int .i64 a0_4, .string a0_5]) (t := 24) ?_; intro gb369 hg w5 hbox hb; replace BK369 := aM_ (hbox); replace GW369 := aM_ (gE_ hg (bl_ HB)); replace GE369 := aM_ (gE_ hg (bl_ HB)); replace HB := aM_ (bT_ (bl_ HB) hb); clear hb hbox hg; obtain ⟨hcz6_0, hcz6_1, hcz6_2, hcz6_3, hcz6_4, hcz6_5⟩ := cl6_ BK369.out; obtain ⟨hfz6_0, hfz6_1, hfz6_2, hfz6_3, hfz6_4, hfz6_5⟩ := fz6_ BK369.out) | ((with_reducible refine gC_ (f := 67) rfl ?_); refine gL_ (some 7) Tryz.func67 #[.int .i64 a0_0] rfl ?_; (with_reducible refine (r3_Form.calls a0_0 t370 _ A2.out).mono ?_); rintro e w7 ⟨rfl, hb⟩; refine ⟨_, rfl, ?_⟩; replace BK369 := aM_ (kB_ (rB_ BK369) hb); replace HB := aM_ (bT_ (bs_ HB GE369) hb)) | ((with_reducible refine gC_ (f := 70) rfl ?_); refine gL_ (some 9) Tryz.func70 #[.int .i64 t370] rfl ?_; (with_reducible refine (r3_HasA.calls t370 t371 _ A3.out).mono ?_); rintro e w' ⟨rfl, ⟨nd, rfl⟩⟩; refine ⟨_, rfl, ?_⟩))
 (try simp only [Act.put, List.setIfInBounds_toArray, List.set_cons_zero, List.set_cons_succ])
 go_cut [3] (fun v3 wc => ∃ (kq : Nat) (x3_3 : List Int), As_ (r3_Reads.j0 kq x3_3 t370 a0_0 a0_1 a0_2 a0_3 a0_4 a0_5 = some r) ∧ As_ (kq ≤ k) ∧ As_ (Kd.R (Kd.int .i64) 3 wc w.heap.size (fun _ => True) v3 x3_3) ∧ As_ (wc.heap[gb369]? = some (.cells #[.int .i64 a0_0, .int .i64 a0_1, .int .i64 a0_2, .int .i64 a0_3, .int .i64 a0_4, .string a0_5] 24 (0, 0))) ∧ As_ (Below w.heap.size w wc))
 case first =>
  have H := HC4.out; clear HC4
  by_cases c8 : t371 = true
  ·subst c8; rw [if_pos rfl] at H
   by_cases c9 : ([] : List Int).length < 17592186044416
   ·rw [if_pos c9] at H; have LMc9 := aM_ c9; clear c9; obtain ⟨y372, hy372⟩ : ∃ y_ : List Int, y_ = (([] : List Int) ++ [a0_2]) := ⟨_, rfl⟩
    replace H : (r3_Reads.j0 k y372 t370 a0_0 a0_1 a0_2 a0_3 a0_4 a0_5) = some r := by first | (rw [hy372]; with_reducible exact H) | (have H2_ := (Option.bind_some _ _).symm.trans H; rw [hy372]; with_reducible exact H2_) | (have H2_ := (Option.bind_some _ _).symm.trans H; with_reducible exact H2_) | with_reducible exact H | (rw [hy372]; exact H) | exact H
    have Ny372 := aM_ hy372; clear hy372; replace H := aM_ H; obtain ⟨hcz10_0, hcz10_1, hcz10_2, hcz10_3, hcz10_4, hcz10_5⟩ := cl6_ BK369.out; obtain ⟨hfz10_0, hfz10_1, hfz10_2, hfz10_3, hfz10_4, hfz10_5⟩ := fz6_ BK369.out
    go_wp2_with (first | ((with_reducible refine gate_builtin (b := .append) (xs := #[.tmp 10, .tmp 13]) rfl ?_); at_builtin; refine Kd.R_append (Kd.int .i64) (w0 := w) w.heap.size rfl (.tmp 10) (.tmp 13) 25 3 (.int .i64 0) 8 rfl Tryz.underlying25 info3 rfl (by decide) (by omega) (.slice none 0 0) ([] : List Int) a0_2 [.int .i64 a0_2] (fun _ => True) (fun _ => False) rfl rfl ?aP (fun _ hk => hk.elim) ?aF ?aO ?aB ?aS ?aL ?_; (case aP => exact rfl); (case aB => exact (bs_ HB GE369)); (case aF => exact (fun _ _ => trivial)); (case aO => exact ((Kd.R_nil _ _ _ _ (fun _ => True)))); (case aS => exact (bY_ (bs_ HB GE369))); (case aL => have := LMc9.out; omega); intro v373 w11 ho hb hg hat; rw [← Ny372.out] at ho; replace BK369 := aM_ (blk_grown (g := gb369) (o := .cells #[.int .i64 a0_0, .int .i64 a0_1, .int .i64 a0_2, .int .i64 a0_3, .int .i64 a0_4, .string a0_5] 24 (0, 0)) (rB_ BK369) hg (by simp [Value.ownBlock])); replace HB := aM_ (hb); replace HO374 := aM_ (ho); clear ho hb hg hat))
    go_meet
    case rel => exact ⟨_, (y372), H, ⟨by first | omega | exact Nat.le_refl _⟩, ⟨rR_ HO374⟩, ⟨rB_ BK369⟩, ⟨bs_ HB GE369⟩⟩
   rw [if_neg c9] at H; exact absurd H (by simp)
  replace c8 := eF_ c8; subst c8; rw [if_neg Bool.false_ne_true] at H; replace H := aM_ H; go_wp2
  go_meet
  case rel => exact ⟨_, (([] : List Int)), H, ⟨by first | omega | exact Nat.le_refl _⟩, ⟨by first | exact Kd.R_nil _ _ _ _ _ | exact Kd.N_nil _ _ _ _ _ | exact Kd.V_nil _ _ _ _ _ | exact Kd.Q_nil _ _ _ _ _ | exact Kd.S_nil _ _ _ _ _⟩, ⟨rB_ BK369⟩, ⟨bs_ HB GE369⟩⟩
 case rest =>
  clear HC4; obtain ⟨kq, x3_3, HA, HJ3, HO_3, BK369, HB⟩ := hcut
  cases kq with
  | zero => exact absurd HA.out (by simp [r3_Reads.j0])
  | succ kj3 =>
   have H := HA.out; clear HA; simp only [r3_Reads.j0] at H; obtain ⟨t375, A12, H⟩ := oB_ H
   by_cases c13 : t375 = true
   ·subst c13; rw [if_pos rfl] at H
    by_cases c14 : x3_3.length < 17592186044416
    ·rw [if_pos c14] at H; have LMc14 := aM_ c14; clear c14; obtain ⟨y376, hy376⟩ : ∃ y_ : List Int, y_ = (x3_3 ++ [a0_3]) := ⟨_, rfl⟩
     replace H : (some y376) = some r := by first | (rw [hy376]; with_reducible exact H) | (have H2_ := (Option.bind_some _ _).symm.trans H; rw [hy376]; with_reducible exact H2_) | (have H2_ := (Option.bind_some _ _).symm.trans H; with_reducible exact H2_) | with_reducible exact H | (rw [hy376]; exact H) | exact H
     have Ny376 := aM_ hy376; clear hy376; obtain rfl := oI_ H
     go_wp2_with (first | ((with_reducible refine gC_ (f := 71) rfl ?_); refine gL_ (some 16) Tryz.func71 #[.int .i64 t370] rfl ?_; (with_reducible refine (r3_HasB.calls t370 true _ A12.out).mono ?_); rintro e w' ⟨rfl, ⟨nd, rfl⟩⟩; refine ⟨_, rfl, ?_⟩; obtain ⟨hcz15_0, hcz15_1, hcz15_2, hcz15_3, hcz15_4, hcz15_5⟩ := cl6_ BK369.out; obtain ⟨hfz15_0, hfz15_1, hfz15_2, hfz15_3, hfz15_4, hfz15_5⟩ := fz6_ BK369.out) | ((with_reducible refine gate_builtin (b := .append) (xs := #[.tmp 17, .tmp 20]) rfl ?_); at_builtin; refine Kd.R_append (Kd.int .i64) (w0 := w) w.heap.size rfl (.tmp 17) (.tmp 20) 25 3 (.int .i64 0) 8 rfl Tryz.underlying25 info3 rfl (by decide) (by omega) u3 x3_3 a0_3 [.int .i64 a0_3] (fun _ => True) (fun _ => False) rfl rfl ?aP (fun _ hk => hk.elim) ?aF ?aO ?aB ?aS ?aL ?_; (case aP => exact rfl); (case aB => exact (bs_ HB GE369)); (case aF => exact (fun _ _ => trivial)); (case aO => exact (rR_ HO_3)); (case aS => exact (bY_ (bs_ HB GE369))); (case aL => have := LMc14.out; omega); intro v377 w16 ho hb hg hat; rw [← Ny376.out] at ho; replace BK369 := aM_ (blk_grown (g := gb369) (o := .cells #[.int .i64 a0_0, .int .i64 a0_1, .int .i64 a0_2, .int .i64 a0_3, .int .i64 a0_4, .string a0_5] 24 (0, 0)) (rB_ BK369) hg (Kd.R_ne HO_3.out BK369.out (by decide))); replace HB := aM_ (hb); replace HO378 := aM_ (ho); clear HO_3; clear ho hb hg hat))
     go_ret; exact ⟨_, eR_, rR_ HO378, bs_ HB GE369⟩
    rw [if_neg c14] at H; exact absurd H (by simp)
   replace c13 := eF_ c13; subst c13; rw [if_neg Bool.false_ne_true] at H; obtain rfl := oI_ H
   go_wp2_with (first | ((with_reducible refine gC_ (f := 71) rfl ?_); refine gL_ (some 16) Tryz.func71 #[.int .i64 t370] rfl ?_; (with_reducible refine (r3_HasB.calls t370 false _ A12.out).mono ?_); rintro e w' ⟨rfl, ⟨nd, rfl⟩⟩; refine ⟨_, rfl, ?_⟩))
   go_ret; exact ⟨_, eR_, rR_ HO_3, bs_ HB GE369⟩
def r3_Effect.f (a0 : Int) : Option (Bool) := if a0 = 16 then (some true) else (if a0 = 17 then (some true) else ((r0_Between.f a0 24 27).bind fun t379 => (if t379 = true then (some true) else ((r0_Between.f a0 31 33).bind fun t380 => (some t380)))))
theorem r3_Effect.calls (a0 : Int) (r : Bool) (w : World) (h : r3_Effect.f a0 = some r) :
    Calls Tryz.prog 80 #[.int .i64 a0] w fun e w' => e = .returned (.bool r) ∧ Dr_ w w' := by
 have H : (if a0 = 16 then (some true) else (if a0 = 17 then (some true) else ((r0_Between.f a0 24 27).bind fun t379 => (if t379 = true then (some true) else ((r0_Between.f a0 31 33).bind fun t380 => (some t380)))))) = some r := h; clear h
 by_cases c2 : a0 = 16
 ·rw [if_pos c2] at H; have c2b0 := bH_ c2; have c2b1 := bF_ c2; clear c2; obtain rfl := oI_ H; go_enter Tryz.func80, Tryz.ntmps80; go_wp2; go_ret; exact ⟨eQ_, dR_⟩
 rw [if_neg c2] at H; have c2b0 := bE_ c2; have c2b1 := bG_ c2
 by_cases c3 : a0 = 17
 ·rw [if_pos c3] at H; have c3b0 := bH_ c3; have c3b1 := bF_ c3; clear c3; obtain rfl := oI_ H; go_enter Tryz.func80, Tryz.ntmps80; go_wp2; go_ret; exact ⟨eQ_, dR_⟩
 rw [if_neg c3] at H; have c3b0 := bE_ c3; have c3b1 := bG_ c3; obtain ⟨t379, A4, H⟩ := oB_ H
 by_cases c5 : t379 = true
 ·subst c5; rw [if_pos rfl] at H; obtain rfl := oI_ H; go_enter Tryz.func80, Tryz.ntmps80
  go_wp2_with (first | (go_at_call 76; (with_reducible refine (r0_Between.calls a0 24 27 true _ A4.out).mono ?_); rintro e w' ⟨rfl, ⟨nd, rfl⟩⟩))
  go_ret; exact ⟨eQ_, dR_⟩
 replace c5 := eF_ c5; subst c5; rw [if_neg Bool.false_ne_true] at H; obtain ⟨t380, A6, H⟩ := oB_ H; obtain rfl := oI_ H; go_enter Tryz.func80, Tryz.ntmps80
 go_wp2_with (first | (go_at_call 76; (with_reducible refine (r0_Between.calls a0 24 27 false _ A4.out).mono ?_); rintro e w' ⟨rfl, ⟨nd, rfl⟩⟩) | (go_at_call 76; (with_reducible refine (r0_Between.calls a0 31 33 t380 _ A6.out).mono ?_); rintro e w' ⟨rfl, ⟨nd, rfl⟩⟩))
 go_ret; exact ⟨eQ_, dR_⟩
end
section
attribute [local go_sem] max2_int min2_int max_two min_two max_three min_three max_four min_four
end
section
attribute [local go_sem] max2_int min2_int max_two min_two max_three min_three max_four min_four
end
section
attribute [local go_sem] max2_int min2_int max_two min_two max_three min_three max_four min_four
def w0_CodesWeight.l0 : Nat → List (S24) → Int → Int → Option (Int)
  | 0, _, _, _ => none
  | k + 1, x0, x3, x4 => if x4 < (x0.length : Int) then (if x3 < 1048576 then (if 0 ≤ x4 then (w0_CodesWeight.l0 k x0 (wrap64 (x3 + (wrap64 ((((J24 x0 x4).f5).size : Int) / 8)))) (wrap64 (x4 + 1))) else (none)) else (some x3)) else (some x3)
def w0_CodesWeight.f (k : Nat) (l0 : List (S24)) : Option (Int) := w0_CodesWeight.l0 k l0 (l0.length : Int) 0
theorem w0_CodesWeight.calls (k : Nat) (A0 : Option Addr) (c0 : Nat) (l0 : List (S24)) (r : Int) (w : World) (hr0 : Kd.C k24 w A0 l0.length l0) (hc0 : l0.length ≤ c0) (h : w0_CodesWeight.f k l0 = some r) :
    Calls Tryz.prog 53 #[.slice A0 l0.length c0] w fun e w' => e = .returned (.int .i64 r) ∧ Dr_ w w' := by
 have HR0 := aM_ hr0; have HC0 := aM_ hc0; clear hr0 hc0; have H : (w0_CodesWeight.l0 k l0 (l0.length : Int) 0) = some r := h; clear h; replace H := aM_ H; go_enter Tryz.func53, Tryz.ntmps53; go_wp2
 go_loopg [3, 4] k (fun kq v3 v4 w' => ∃ (x3_1 : Int) (x4_1 : Int), v3 = .int .i64 x3_1 ∧ v4 = .int .i64 x4_1 ∧ As_ (w0_CodesWeight.l0 kq l0 x3_1 x4_1 = some r) ∧ As_ (kq ≤ k) ∧ Dr_ w w')
 case atStart => exact ⟨((l0.length : Int)), (0), eQ_, eQ_, H, ⟨Nat.le_refl _⟩, dR_⟩
 case round =>
  clear H; obtain ⟨x3_1, x4_1, rfl, rfl, HA, HK1, ⟨m1, rfl⟩⟩ := hrel
  cases gk with
  | zero => exact absurd HA.out (by simp [w0_CodesWeight.l0])
  | succ k1 =>
   have H := HA.out; clear HA; simp only [w0_CodesWeight.l0] at H
   by_cases c2 : x4_1 < (l0.length : Int)
   ·rw [if_pos c2] at H; have c2b0 := dE_ c2; clear c2
    by_cases c3 : x3_1 < 1048576
    ·rw [if_pos c3] at H; have c3b0 := dE_ c3; clear c3
     by_cases c4 : 0 ≤ x4_1
     ·rw [if_pos c4] at H; have c4b0 := dE_ c4; clear c4; replace H := aM_ H; have p101 : 0 ≤ (x4_1 : Int) := oD_; have q101 : x4_1 < (l0.length : Int) := oD_; obtain ⟨ad101, e101, hx101_0, hx101_1, hx101_2, hx101_3, hx101_4, hx101_5⟩ := at_T24 HR0.out x4_1 p101 q101
      cases e101
      replace p101 := eq_true p101; replace q101 := eq_true q101; go_wp2
      go_roundg k1
      case measure => have := HK1.out; omega
      case rel => exact ⟨(wrap64 (x3_1 + (wrap64 ((((J24 l0 x4_1).f5).size : Int) / 8)))), (wrap64 (x4_1 + 1)), eQ_, eQ_, H, ⟨by have := HK1.out; omega⟩, dR_⟩
     rw [if_neg c4] at H; exact absurd H (by simp)
    rw [if_neg c3] at H; have c3b0 := dF_ c3; clear c3; obtain rfl := oI_ H; go_wp2; go_ret; exact ⟨eQ_, dR_⟩
   rw [if_neg c2] at H; have c2b0 := dF_ c2; clear c2; obtain rfl := oI_ H; go_wp2; go_ret; exact ⟨eQ_, dR_⟩
def w14_Heavy.f (k : Nat) (l0_0 : List (S24)) (a0_1 : Int) (a0_2 : Int) (a0_3 : Int) (a0_4 : Int) (a0_5 : Int) (a0_6 : ByteArray) (l0_7 : List Int) : Option (Bool) := (w0_CodesWeight.f k l0_0).bind fun t103 => (some (decide ((wrap64 (t103 + (l0_7.length : Int))) > 300)))
theorem w14_Heavy.calls (k : Nat) (A0_0 : Option Addr) (c0_0 : Nat) (l0_0 : List (S24)) (a0_1 : Int) (a0_2 : Int) (a0_3 : Int) (a0_4 : Int) (a0_5 : Int) (a0_6 : ByteArray) (A0_7 : Option Addr) (c0_7 : Nat) (l0_7 : List Int) (r : Bool) (w : World) (hr0_0 : Kd.C k24 w A0_0 l0_0.length l0_0) (hc0_0 : l0_0.length ≤ c0_0) (hr0_7 : Kd.C (Kd.int .i64) w A0_7 l0_7.length l0_7) (hc0_7 : l0_7.length ≤ c0_7) (h : w14_Heavy.f k l0_0 a0_1 a0_2 a0_3 a0_4 a0_5 a0_6 l0_7 = some r) :
    Calls Tryz.prog 27 #[.agg #[.slice A0_0 l0_0.length c0_0, .int .i64 a0_1, .int .i64 a0_2, .int .i64 a0_3, .int .i64 a0_4, .int .i64 a0_5, .string a0_6, .slice A0_7 l0_7.length c0_7]] w fun e w' => e = .returned (.bool r) ∧ Below w.heap.size w w' := by
 have hu27 := Tryz.underlying27; have HR0_0 := aM_ hr0_0; have HC0_0 := aM_ hc0_0; clear hr0_0 hc0_0; have HR0_7 := aM_ hr0_7; have HC0_7 := aM_ hc0_7; clear hr0_7 hc0_7; have HB := aM_ (Below.refl w.heap.size w); have H : ((w0_CodesWeight.f k l0_0).bind fun t103 => (some (decide ((wrap64 (t103 + (l0_7.length : Int))) > 300)))) = some r := h; clear h; obtain ⟨t103, A2, H⟩ := oB_ H; obtain rfl := oI_ H; go_enter Tryz.func27, Tryz.ntmps27
 go_wp2_with (first | ((with_reducible refine gate_dst (N := 1) rfl ?_); refine bX_ (N := 1) (cs := #[.slice A0_0 l0_0.length c0_0, .int .i64 a0_1, .int .i64 a0_2, .int .i64 a0_3, .int .i64 a0_4, .int .i64 a0_5, .string a0_6, .slice A0_7 l0_7.length c0_7]) (t := 27) ?_; intro gb102 hg w3 hbox hb; replace BK102 := aM_ (hbox); replace GW102 := aM_ (gE_ hg (bl_ HB)); replace GE102 := aM_ (gE_ hg (bl_ HB)); replace HB := aM_ (bT_ (bl_ HB) hb); clear hb hbox hg; obtain ⟨hcz4_0, hcz4_1, hcz4_2, hcz4_3, hcz4_4, hcz4_5, hcz4_6, hcz4_7⟩ := cl8_ BK102.out; obtain ⟨hfz4_0, hfz4_1, hfz4_2, hfz4_3, hfz4_4, hfz4_5, hfz4_6, hfz4_7⟩ := fz8_ BK102.out) | (go_at_call 53; (with_reducible refine (w0_CodesWeight.calls k _ _ l0_0 t103 _ ?side1 ?side2 A2.out).mono ?_); (case side1 => exact rC_ (Kd.C_below HR0_0.out HB.out)); (case side2 => exact HC0_0.out); rintro e w' ⟨rfl, ⟨nd, rfl⟩⟩; (try first | exact ⟨rfl, _, dN_⟩ | exact ⟨rfl, _, dT_⟩)))
 repeat (go_quiet (first | ((with_reducible refine gate_dst (N := 1) rfl ?_); refine bX_ (N := 1) (cs := #[.slice A0_0 l0_0.length c0_0, .int .i64 a0_1, .int .i64 a0_2, .int .i64 a0_3, .int .i64 a0_4, .int .i64 a0_5, .string a0_6, .slice A0_7 l0_7.length c0_7]) (t := 27) ?_; intro gb102 hg w3 hbox hb; replace BK102 := aM_ (hbox); replace GW102 := aM_ (gE_ hg (bl_ HB)); replace GE102 := aM_ (gE_ hg (bl_ HB)); replace HB := aM_ (bT_ (bl_ HB) hb); clear hb hbox hg; obtain ⟨hcz4_0, hcz4_1, hcz4_2, hcz4_3, hcz4_4, hcz4_5, hcz4_6, hcz4_7⟩ := cl8_ BK102.out; obtain ⟨hfz4_0, hfz4_1, hfz4_2, hfz4_3, hfz4_4, hfz4_5, hfz4_6, hfz4_7⟩ := fz8_ BK102.out) | (go_at_call 53; (with_reducible refine (w0_CodesWeight.calls k _ _ l0_0 t103 _ ?side1 ?side2 A2.out).mono ?_); (case side1 => exact rC_ (Kd.C_below HR0_0.out HB.out)); (case side2 => exact HC0_0.out); rintro e w' ⟨rfl, ⟨nd, rfl⟩⟩; (try first | exact ⟨rfl, _, dN_⟩ | exact ⟨rfl, _, dT_⟩))); try go_wp2_with (first | ((with_reducible refine gate_dst (N := 1) rfl ?_); refine bX_ (N := 1) (cs := #[.slice A0_0 l0_0.length c0_0, .int .i64 a0_1, .int .i64 a0_2, .int .i64 a0_3, .int .i64 a0_4, .int .i64 a0_5, .string a0_6, .slice A0_7 l0_7.length c0_7]) (t := 27) ?_; intro gb102 hg w3 hbox hb; replace BK102 := aM_ (hbox); replace GW102 := aM_ (gE_ hg (bl_ HB)); replace GE102 := aM_ (gE_ hg (bl_ HB)); replace HB := aM_ (bT_ (bl_ HB) hb); clear hb hbox hg; obtain ⟨hcz4_0, hcz4_1, hcz4_2, hcz4_3, hcz4_4, hcz4_5, hcz4_6, hcz4_7⟩ := cl8_ BK102.out; obtain ⟨hfz4_0, hfz4_1, hfz4_2, hfz4_3, hfz4_4, hfz4_5, hfz4_6, hfz4_7⟩ := fz8_ BK102.out) | (go_at_call 53; (with_reducible refine (w0_CodesWeight.calls k _ _ l0_0 t103 _ ?side1 ?side2 A2.out).mono ?_); (case side1 => exact rC_ (Kd.C_below HR0_0.out HB.out)); (case side2 => exact HC0_0.out); rintro e w' ⟨rfl, ⟨nd, rfl⟩⟩; (try first | exact ⟨rfl, _, dN_⟩ | exact ⟨rfl, _, dT_⟩))))
 go_ret; exact ⟨eR_, bs_ HB GE102⟩
def w0_Texts.l0 : Nat → List ByteArray → Int → Int → Option (Int)
  | 0, _, _, _ => none
  | k + 1, x0, x3, x4 => if x4 < (x0.length : Int) then (if x3 < 1048576 then (if 0 ≤ x4 then (w0_Texts.l0 k x0 (wrap64 (x3 + ((rdOf ByteArray.empty x0 x4).size : Int))) (wrap64 (x4 + 1))) else (none)) else (some x3)) else (some x3)
def w0_Texts.f (k : Nat) (l0 : List ByteArray) : Option (Int) := w0_Texts.l0 k l0 (l0.length : Int) 0
theorem w0_Texts.calls (k : Nat) (A0 : Option Addr) (c0 : Nat) (l0 : List ByteArray) (r : Int) (w : World) (hr0 : Kd.C Kd.string w A0 l0.length l0) (hc0 : l0.length ≤ c0) (h : w0_Texts.f k l0 = some r) :
    Calls Tryz.prog 85 #[.slice A0 l0.length c0] w fun e w' => e = .returned (.int .i64 r) ∧ Dr_ w w' := by
 have HR0 := aM_ hr0; have HC0 := aM_ hc0; clear hr0 hc0; have H : (w0_Texts.l0 k l0 (l0.length : Int) 0) = some r := h; clear h; replace H := aM_ H; go_enter Tryz.func85, Tryz.ntmps85; go_wp2
 go_loopg [3, 4] k (fun kq v3 v4 w' => ∃ (x3_1 : Int) (x4_1 : Int), v3 = .int .i64 x3_1 ∧ v4 = .int .i64 x4_1 ∧ As_ (w0_Texts.l0 kq l0 x3_1 x4_1 = some r) ∧ As_ (kq ≤ k) ∧ Dr_ w w')
 case atStart => exact ⟨((l0.length : Int)), (0), eQ_, eQ_, H, ⟨Nat.le_refl _⟩, dR_⟩
 case round =>
  clear H; obtain ⟨x3_1, x4_1, rfl, rfl, HA, HK1, ⟨m1, rfl⟩⟩ := hrel
  cases gk with
  | zero => exact absurd HA.out (by simp [w0_Texts.l0])
  | succ k1 =>
   have H := HA.out; clear HA; simp only [w0_Texts.l0] at H
   by_cases c2 : x4_1 < (l0.length : Int)
   ·rw [if_pos c2] at H; have c2b0 := dE_ c2; clear c2
    by_cases c3 : x3_1 < 1048576
    ·rw [if_pos c3] at H; have c3b0 := dE_ c3; clear c3
     by_cases c4 : 0 ≤ x4_1
     ·rw [if_pos c4] at H; have c4b0 := dE_ c4; clear c4; replace H := aM_ H; have p104 : 0 ≤ (x4_1 : Int) := oD_; have q104 : x4_1 < (l0.length : Int) := oD_; obtain ⟨ad104, e104, hx104_0⟩ := Kd.at_string HR0.out x4_1 p104 q104
      cases e104
      replace p104 := eq_true p104; replace q104 := eq_true q104; go_wp2
      go_roundg k1
      case measure => have := HK1.out; omega
      case rel => exact ⟨(wrap64 (x3_1 + ((rdOf ByteArray.empty l0 x4_1).size : Int))), (wrap64 (x4_1 + 1)), eQ_, eQ_, H, ⟨by have := HK1.out; omega⟩, dR_⟩
     rw [if_neg c4] at H; exact absurd H (by simp)
    rw [if_neg c3] at H; have c3b0 := dF_ c3; clear c3; obtain rfl := oI_ H; go_wp2; go_ret; exact ⟨eQ_, dR_⟩
   rw [if_neg c2] at H; have c2b0 := dF_ c2; clear c2; obtain rfl := oI_ H; go_wp2; go_ret; exact ⟨eQ_, dR_⟩
end
section
attribute [local go_sem] max2_int min2_int max_two min_two max_three min_three max_four min_four
mutual
def w0_UnitWeight.j1 : Nat → Int → List (S132) → List (S134) → List (S136) → List ByteArray → Option (Int)
  | 0, _, _, _, _, _ => none
  | k + 1, x3, x106a, x106b, x106c, x106d => w0_UnitWeight.l1 k x3 0 x106a x106b x106c x106d
def w0_UnitWeight.j3 : Nat → Int → List (S132) → List (S134) → List (S136) → List ByteArray → Option (Int)
  | 0, _, _, _, _, _ => none
  | k + 1, x3, x106a, x106b, x106c, x106d => w0_UnitWeight.l2 k x3 0 x106a x106b x106c x106d
def w0_UnitWeight.l2 : Nat → Int → Int → List (S132) → List (S134) → List (S136) → List ByteArray → Option (Int)
  | 0, _, _, _, _, _, _ => none
  | k + 1, x3, x6, x106a, x106b, x106c, x106d => if x6 < (x106c.length : Int) then (if x3 < 1048576 then (if 0 ≤ x6 then (w0_UnitWeight.l2 k (wrap64 (x3 + (wrap64 ((((J136 x106c x6).f0).size : Int) / 8)))) (wrap64 (x6 + 1)) x106a x106b x106c x106d) else (none)) else (some x3)) else (some x3)
def w0_UnitWeight.l1 : Nat → Int → Int → List (S132) → List (S134) → List (S136) → List ByteArray → Option (Int)
  | 0, _, _, _, _, _, _ => none
  | k + 1, x3, x5, x106a, x106b, x106c, x106d => if x5 < (x106b.length : Int) then (if x3 < 1048576 then (if 0 ≤ x5 then (w0_UnitWeight.l1 k (wrap64 (x3 + (wrap64 ((((J134 x106b x5).f0).size : Int) / 8)))) (wrap64 (x5 + 1)) x106a x106b x106c x106d) else (none)) else (w0_UnitWeight.j3 k x3 x106a x106b x106c x106d)) else (w0_UnitWeight.j3 k x3 x106a x106b x106c x106d)
def w0_UnitWeight.l0 : Nat → Int → Int → List (S132) → List (S134) → List (S136) → List ByteArray → Option (Int)
  | 0, _, _, _, _, _, _ => none
  | k + 1, x3, x4, x106a, x106b, x106c, x106d => if x4 < (x106a.length : Int) then (if x3 < 1048576 then (if 0 ≤ x4 then (w0_UnitWeight.l0 k (wrap64 (x3 + (wrap64 (Int.tdiv (wrap64 ((((J132 x106a x4).f0).size : Int) + (((J132 x106a x4).f1.f5).size : Int))) 8)))) (wrap64 (x4 + 1)) x106a x106b x106c x106d) else (none)) else (w0_UnitWeight.j1 k x3 x106a x106b x106c x106d)) else (w0_UnitWeight.j1 k x3 x106a x106b x106c x106d)
end
def w0_UnitWeight.f (k : Nat) (l0_0 : List (S132)) (l0_1 : List (S134)) (l0_2 : List (S136)) (l0_3 : List ByteArray) : Option (Int) := (w0_Texts.f k l0_3).bind fun t106 => (w0_UnitWeight.l0 k (wrap64 ((wrap64 ((wrap64 ((wrap64 ((l0_0.length : Int) + (l0_1.length : Int))) + (l0_2.length : Int))) + (l0_3.length : Int))) + (wrap64 (Int.tdiv t106 8)))) 0 l0_0 l0_1 l0_2 l0_3)
theorem w0_UnitWeight.calls (k : Nat) (A0_0 : Option Addr) (c0_0 : Nat) (l0_0 : List (S132)) (A0_1 : Option Addr) (c0_1 : Nat) (l0_1 : List (S134)) (A0_2 : Option Addr) (c0_2 : Nat) (l0_2 : List (S136)) (A0_3 : Option Addr) (c0_3 : Nat) (l0_3 : List ByteArray) (r : Int) (w : World) (hr0_0 : Kd.C k132 w A0_0 l0_0.length l0_0) (hc0_0 : l0_0.length ≤ c0_0) (hr0_1 : Kd.C k134 w A0_1 l0_1.length l0_1) (hc0_1 : l0_1.length ≤ c0_1) (hr0_2 : Kd.C k136 w A0_2 l0_2.length l0_2) (hc0_2 : l0_2.length ≤ c0_2) (hr0_3 : Kd.C Kd.string w A0_3 l0_3.length l0_3) (hc0_3 : l0_3.length ≤ c0_3) (h : w0_UnitWeight.f k l0_0 l0_1 l0_2 l0_3 = some r) :
    Calls Tryz.prog 86 #[.agg #[.slice A0_0 l0_0.length c0_0, .slice A0_1 l0_1.length c0_1, .slice A0_2 l0_2.length c0_2, .slice A0_3 l0_3.length c0_3]] w fun e w' => e = .returned (.int .i64 r) ∧ Below w.heap.size w w' := by
 have hu122 := Tryz.underlying122; have HR0_0 := aM_ hr0_0; have HC0_0 := aM_ hc0_0; clear hr0_0 hc0_0; have HR0_1 := aM_ hr0_1; have HC0_1 := aM_ hc0_1; clear hr0_1 hc0_1; have HR0_2 := aM_ hr0_2; have HC0_2 := aM_ hc0_2; clear hr0_2 hc0_2; have HR0_3 := aM_ hr0_3; have HC0_3 := aM_ hc0_3; clear hr0_3 hc0_3; have HB := aM_ (Below.refl w.heap.size w); have H : ((w0_Texts.f k l0_3).bind fun t106 => (w0_UnitWeight.l0 k (wrap64 ((wrap64 ((wrap64 ((wrap64 ((l0_0.length : Int) + (l0_1.length : Int))) + (l0_2.length : Int))) + (l0_3.length : Int))) + (wrap64 (Int.tdiv t106 8)))) 0 l0_0 l0_1 l0_2 l0_3)) = some r := h; clear h; obtain ⟨t106, A2, H⟩ := oB_ H; have HC3 := aM_ H; clear H; go_enter Tryz.func86, Tryz.ntmps86
 go_upto_block 0 with (first | ((with_reducible refine gate_dst (N := 1) rfl ?_); refine bX_ (N := 1) (cs := #[.slice A0_0 l0_0.length c0_0, .slice A0_1 l0_1.length c0_1, .slice A0_2 l0_2.length c0_2, .slice A0_3 l0_3.length c0_3]) (t := 122) ?_; intro gb105 hg w4 hbox hb; replace BK105 := aM_ (hbox); replace GW105 := aM_ (gE_ hg (bl_ HB)); replace GE105 := aM_ (gE_ hg (bl_ HB)); replace HB := aM_ (bT_ (bl_ HB) hb); clear hb hbox hg; obtain ⟨hcz5_0, hcz5_1, hcz5_2, hcz5_3⟩ := cl4_ BK105.out; obtain ⟨hfz5_0, hfz5_1, hfz5_2, hfz5_3⟩ := fz4_ BK105.out) | (go_at_call 85; (with_reducible refine (w0_Texts.calls k _ _ l0_3 t106 _ ?side1 ?side2 A2.out).mono ?_); (case side1 => exact rC_ (Kd.C_below HR0_3.out HB.out)); (case side2 => exact HC0_3.out); rintro e w' ⟨rfl, ⟨nd, rfl⟩⟩; (try first | exact ⟨rfl, _, dN_⟩ | exact ⟨rfl, _, dT_⟩)))
 repeat (go_quiet (first | ((with_reducible refine gate_dst (N := 1) rfl ?_); refine bX_ (N := 1) (cs := #[.slice A0_0 l0_0.length c0_0, .slice A0_1 l0_1.length c0_1, .slice A0_2 l0_2.length c0_2, .slice A0_3 l0_3.length c0_3]) (t := 122) ?_; intro gb105 hg w4 hbox hb; replace BK105 := aM_ (hbox); replace GW105 := aM_ (gE_ hg (bl_ HB)); replace GE105 := aM_ (gE_ hg (bl_ HB)); replace HB := aM_ (bT_ (bl_ HB) hb); clear hb hbox hg; obtain ⟨hcz5_0, hcz5_1, hcz5_2, hcz5_3⟩ := cl4_ BK105.out; obtain ⟨hfz5_0, hfz5_1, hfz5_2, hfz5_3⟩ := fz4_ BK105.out) | (go_at_call 85; (with_reducible refine (w0_Texts.calls k _ _ l0_3 t106 _ ?side1 ?side2 A2.out).mono ?_); (case side1 => exact rC_ (Kd.C_below HR0_3.out HB.out)); (case side2 => exact HC0_3.out); rintro e w' ⟨rfl, ⟨nd, rfl⟩⟩; (try first | exact ⟨rfl, _, dN_⟩ | exact ⟨rfl, _, dT_⟩))); go_upto_block 0 with (first | ((with_reducible refine gate_dst (N := 1) rfl ?_); refine bX_ (N := 1) (cs := #[.slice A0_0 l0_0.length c0_0, .slice A0_1 l0_1.length c0_1, .slice A0_2 l0_2.length c0_2, .slice A0_3 l0_3.length c0_3]) (t := 122) ?_; intro gb105 hg w4 hbox hb; replace BK105 := aM_ (hbox); replace GW105 := aM_ (gE_ hg (bl_ HB)); replace GE105 := aM_ (gE_ hg (bl_ HB)); replace HB := aM_ (bT_ (bl_ HB) hb); clear hb hbox hg; obtain ⟨hcz5_0, hcz5_1, hcz5_2, hcz5_3⟩ := cl4_ BK105.out; obtain ⟨hfz5_0, hfz5_1, hfz5_2, hfz5_3⟩ := fz4_ BK105.out) | (go_at_call 85; (with_reducible refine (w0_Texts.calls k _ _ l0_3 t106 _ ?side1 ?side2 A2.out).mono ?_); (case side1 => exact rC_ (Kd.C_below HR0_3.out HB.out)); (case side2 => exact HC0_3.out); rintro e w' ⟨rfl, ⟨nd, rfl⟩⟩; (try first | exact ⟨rfl, _, dN_⟩ | exact ⟨rfl, _, dT_⟩))))
 (try simp only [Act.put, List.setIfInBounds_toArray, List.set_cons_zero, List.set_cons_succ])
 go_cut [3] (fun v3 wc => ∃ (kq : Nat) (x3_2 : Int), v3 = .int .i64 x3_2 ∧ As_ (w0_UnitWeight.j1 kq x3_2 l0_0 l0_1 l0_2 l0_3 = some r) ∧ As_ (kq ≤ k) ∧ As_ (wc.heap[gb105]? = some (.cells #[(.slice A0_0 l0_0.length c0_0), (.slice A0_1 l0_1.length c0_1), (.slice A0_2 l0_2.length c0_2), (.slice A0_3 l0_3.length c0_3)] 122 (0, 0))) ∧ As_ (Below w.heap.size w wc))
 case first =>
  have H := HC3.out; clear HC3; replace H := aM_ H; go_wp2
  repeat (go_quiet (fail); try go_wp2)
  go_loopg [3, 4] k (fun kq v3 v4 w' => ∃ (x3_1 : Int) (x4_1 : Int), v3 = .int .i64 x3_1 ∧ v4 = .int .i64 x4_1 ∧ As_ (w0_UnitWeight.l0 kq x3_1 x4_1 l0_0 l0_1 l0_2 l0_3 = some r) ∧ As_ (kq ≤ k) ∧ As_ (w'.heap[gb105]? = some (.cells #[(.slice A0_0 l0_0.length c0_0), (.slice A0_1 l0_1.length c0_1), (.slice A0_2 l0_2.length c0_2), (.slice A0_3 l0_3.length c0_3)] 122 (0, 0))) ∧ As_ (Below w.heap.size w w'))
  case atStart => exact ⟨(wrap64 ((wrap64 ((wrap64 ((wrap64 ((l0_0.length : Int) + (l0_1.length : Int))) + (l0_2.length : Int))) + (l0_3.length : Int))) + (wrap64 (Int.tdiv t106 8)))), (0), eQ_, eQ_, H, ⟨Nat.le_refl _⟩, ⟨rB_ BK105⟩, ⟨bs_ HB GE105⟩⟩
  case round =>
   clear H; obtain ⟨x3_1, x4_1, rfl, rfl, HA, HK1, BK105, HB⟩ := hrel
   cases gk with
   | zero => exact absurd HA.out (by simp [w0_UnitWeight.l0])
   | succ k1 =>
    have H := HA.out; clear HA; simp only [w0_UnitWeight.l0] at H
    by_cases c6 : x4_1 < (l0_0.length : Int)
    ·rw [if_pos c6] at H; have c6b0 := dE_ c6; clear c6
     (first | rw [c6b0] | (simp only [i64_w, i32_w]; rw [c6b0]) | skip)
     by_cases c7 : x3_1 < 1048576
     ·rw [if_pos c7] at H; have c7b0 := dE_ c7; clear c7
      by_cases c8 : 0 ≤ x4_1
      ·rw [if_pos c8] at H; have c8b0 := dE_ c8; clear c8; replace H := aM_ H; obtain ⟨hcz9_0, hcz9_1, hcz9_2, hcz9_3⟩ := cl4_ BK105.out; obtain ⟨hfz9_0, hfz9_1, hfz9_2, hfz9_3⟩ := fz4_ BK105.out; have p107 : 0 ≤ (x4_1 : Int) := oD_; have q107 : x4_1 < (l0_0.length : Int) := oD_; obtain ⟨ad107, e107, hx107_0, hx107_1, hx107_2, hx107_3, hx107_4, hx107_5, hx107_6⟩ := at_T132 HR0_0.out x4_1 p107 q107
       cases e107
       replace hx107_0 := hC_ HB hx107_0; replace hx107_1 := hC_ HB hx107_1; replace hx107_2 := hC_ HB hx107_2; replace hx107_3 := hC_ HB hx107_3; replace hx107_4 := hC_ HB hx107_4; replace hx107_5 := hC_ HB hx107_5; replace hx107_6 := hC_ HB hx107_6; replace p107 := eq_true p107; replace q107 := eq_true q107; have p108 : 0 ≤ (x4_1 : Int) := oD_; have q108 : x4_1 < (l0_0.length : Int) := oD_; obtain ⟨ad108, e108, hx108_0, hx108_1, hx108_2, hx108_3, hx108_4, hx108_5, hx108_6⟩ := at_T132 HR0_0.out x4_1 p108 q108; obtain rfl : ad107 = ad108 := (by injection e108)
       replace hx108_0 := hC_ HB hx108_0; replace hx108_1 := hC_ HB hx108_1; replace hx108_2 := hC_ HB hx108_2; replace hx108_3 := hC_ HB hx108_3; replace hx108_4 := hC_ HB hx108_4; replace hx108_5 := hC_ HB hx108_5; replace hx108_6 := hC_ HB hx108_6; replace p108 := eq_true p108; replace q108 := eq_true q108; go_wp2
       repeat (go_quiet (fail); try go_wp2)
       go_roundg k1
       case measure => have := HK1.out; omega
       case rel => exact ⟨(wrap64 (x3_1 + (wrap64 (Int.tdiv (wrap64 ((((J132 l0_0 x4_1).f0).size : Int) + (((J132 l0_0 x4_1).f1.f5).size : Int))) 8)))), (wrap64 (x4_1 + 1)), eQ_, eQ_, H, ⟨by have := HK1.out; omega⟩, ⟨rB_ BK105⟩, ⟨bs_ HB GE105⟩⟩
      rw [if_neg c8] at H; exact absurd H (by simp)
     rw [if_neg c7] at H; have c7b0 := dF_ c7; clear c7; replace H := aM_ H; obtain ⟨hcz10_0, hcz10_1, hcz10_2, hcz10_3⟩ := cl4_ BK105.out; obtain ⟨hfz10_0, hfz10_1, hfz10_2, hfz10_3⟩ := fz4_ BK105.out; go_wp2
     repeat (go_quiet (fail); try go_wp2)
     go_meet
     case rel => exact ⟨_, (x3_1), eQ_, H, ⟨by have := HK1.out; first | omega | exact Nat.le_refl _⟩, ⟨rB_ BK105⟩, ⟨bs_ HB GE105⟩⟩
    rw [if_neg c6] at H; have c6b0 := dF_ c6; clear c6
    (first | rw [c6b0] | (simp only [i64_w, i32_w]; rw [c6b0]) | skip)
    replace H := aM_ H; obtain ⟨hcz11_0, hcz11_1, hcz11_2, hcz11_3⟩ := cl4_ BK105.out; obtain ⟨hfz11_0, hfz11_1, hfz11_2, hfz11_3⟩ := fz4_ BK105.out; go_wp2
    repeat (go_quiet (fail); try go_wp2)
    go_meet
    case rel => exact ⟨_, (x3_1), eQ_, H, ⟨by have := HK1.out; first | omega | exact Nat.le_refl _⟩, ⟨rB_ BK105⟩, ⟨bs_ HB GE105⟩⟩
 case rest =>
  clear HC3; obtain ⟨kq, x3_2, rfl, HA, HJ2, BK105, HB⟩ := hcut
  cases kq with
  | zero => exact absurd HA.out (by simp [w0_UnitWeight.j1])
  | succ kj2 =>
   have H := HA.out; clear HA; simp only [w0_UnitWeight.j1] at H; have HC12 := aM_ H; clear H
   go_upto_block 2 with (fail)
   repeat (go_quiet (fail); go_upto_block 2 with (fail))
   go_cut [3] (fun v3 wc => ∃ (kq : Nat) (x3_11 : Int), v3 = .int .i64 x3_11 ∧ As_ (w0_UnitWeight.j3 kq x3_11 l0_0 l0_1 l0_2 l0_3 = some r) ∧ As_ (kq ≤ kj2) ∧ As_ (wc.heap[gb105]? = some (.cells #[(.slice A0_0 l0_0.length c0_0), (.slice A0_1 l0_1.length c0_1), (.slice A0_2 l0_2.length c0_2), (.slice A0_3 l0_3.length c0_3)] 122 (0, 0))) ∧ As_ (Below w.heap.size w wc))
   case first =>
    have H := HC12.out; clear HC12; replace H := aM_ H; go_wp2
    repeat (go_quiet (fail); try go_wp2)
    go_loopg [3, 5] kj2 (fun kq v3 v5 w' => ∃ (x3_2 : Int) (x5_2 : Int), v3 = .int .i64 x3_2 ∧ v5 = .int .i64 x5_2 ∧ As_ (w0_UnitWeight.l1 kq x3_2 x5_2 l0_0 l0_1 l0_2 l0_3 = some r) ∧ As_ (kq ≤ kj2) ∧ As_ (w'.heap[gb105]? = some (.cells #[(.slice A0_0 l0_0.length c0_0), (.slice A0_1 l0_1.length c0_1), (.slice A0_2 l0_2.length c0_2), (.slice A0_3 l0_3.length c0_3)] 122 (0, 0))) ∧ As_ (Below w.heap.size w w'))
    case atStart => exact ⟨(x3_2), (0), eQ_, eQ_, H, ⟨Nat.le_refl _⟩, ⟨rB_ BK105⟩, ⟨bs_ HB GE105⟩⟩
    case round =>
     clear H; obtain ⟨x3_2, x5_2, rfl, rfl, HA, HK2, BK105, HB⟩ := hrel
     cases gk with
     | zero => exact absurd HA.out (by simp [w0_UnitWeight.l1])
     | succ k2 =>
      have H := HA.out; clear HA; simp only [w0_UnitWeight.l1] at H
      by_cases c13 : x5_2 < (l0_1.length : Int)
      ·rw [if_pos c13] at H; have c13b0 := dE_ c13; clear c13
       (first | rw [c13b0] | (simp only [i64_w, i32_w]; rw [c13b0]) | skip)
       by_cases c14 : x3_2 < 1048576
       ·rw [if_pos c14] at H; have c14b0 := dE_ c14; clear c14
        by_cases c15 : 0 ≤ x5_2
        ·rw [if_pos c15] at H; have c15b0 := dE_ c15; clear c15; replace H := aM_ H; obtain ⟨hcz16_0, hcz16_1, hcz16_2, hcz16_3⟩ := cl4_ BK105.out; obtain ⟨hfz16_0, hfz16_1, hfz16_2, hfz16_3⟩ := fz4_ BK105.out; have p109 : 0 ≤ (x5_2 : Int) := oD_; have q109 : x5_2 < (l0_1.length : Int) := oD_; obtain ⟨ad109, e109, hx109_0, hx109_1⟩ := at_T134 HR0_1.out x5_2 p109 q109
         cases e109
         replace hx109_0 := hC_ HB hx109_0; replace hx109_1 := hC_ HB hx109_1; replace p109 := eq_true p109; replace q109 := eq_true q109; go_wp2
         repeat (go_quiet (fail); try go_wp2)
         go_roundg k2
         case measure => have := HJ2.out; have := HK2.out; omega
         case rel => exact ⟨(wrap64 (x3_2 + (wrap64 ((((J134 l0_1 x5_2).f0).size : Int) / 8)))), (wrap64 (x5_2 + 1)), eQ_, eQ_, H, ⟨by have := HJ2.out; have := HK2.out; omega⟩, ⟨rB_ BK105⟩, ⟨bs_ HB GE105⟩⟩
        rw [if_neg c15] at H; exact absurd H (by simp)
       rw [if_neg c14] at H; have c14b0 := dF_ c14; clear c14; replace H := aM_ H; obtain ⟨hcz17_0, hcz17_1, hcz17_2, hcz17_3⟩ := cl4_ BK105.out; obtain ⟨hfz17_0, hfz17_1, hfz17_2, hfz17_3⟩ := fz4_ BK105.out; go_wp2
       repeat (go_quiet (fail); try go_wp2)
       go_meet
       case rel => exact ⟨_, (x3_2), eQ_, H, ⟨by have := HJ2.out; have := HK2.out; first | omega | exact Nat.le_refl _⟩, ⟨rB_ BK105⟩, ⟨bs_ HB GE105⟩⟩
      rw [if_neg c13] at H; have c13b0 := dF_ c13; clear c13
      (first | rw [c13b0] | (simp only [i64_w, i32_w]; rw [c13b0]) | skip)
      replace H := aM_ H; obtain ⟨hcz18_0, hcz18_1, hcz18_2, hcz18_3⟩ := cl4_ BK105.out; obtain ⟨hfz18_0, hfz18_1, hfz18_2, hfz18_3⟩ := fz4_ BK105.out; go_wp2
      repeat (go_quiet (fail); try go_wp2)
      go_meet
      case rel => exact ⟨_, (x3_2), eQ_, H, ⟨by have := HJ2.out; have := HK2.out; first | omega | exact Nat.le_refl _⟩, ⟨rB_ BK105⟩, ⟨bs_ HB GE105⟩⟩
   case rest =>
    clear HC12; obtain ⟨kq, x3_11, rfl, HA, HJ11, BK105, HB⟩ := hcut
    cases kq with
    | zero => exact absurd HA.out (by simp [w0_UnitWeight.j3])
    | succ kj11 =>
     have H := HA.out; clear HA; simp only [w0_UnitWeight.j3] at H; replace H := aM_ H; go_wp2
     repeat (go_quiet (fail); try go_wp2)
     go_loopg [3, 6] kj11 (fun kq v3 v6 w' => ∃ (x3_3 : Int) (x6_3 : Int), v3 = .int .i64 x3_3 ∧ v6 = .int .i64 x6_3 ∧ As_ (w0_UnitWeight.l2 kq x3_3 x6_3 l0_0 l0_1 l0_2 l0_3 = some r) ∧ As_ (kq ≤ kj11) ∧ As_ (w'.heap[gb105]? = some (.cells #[(.slice A0_0 l0_0.length c0_0), (.slice A0_1 l0_1.length c0_1), (.slice A0_2 l0_2.length c0_2), (.slice A0_3 l0_3.length c0_3)] 122 (0, 0))) ∧ As_ (Below w.heap.size w w'))
     case atStart => exact ⟨(x3_11), (0), eQ_, eQ_, H, ⟨Nat.le_refl _⟩, ⟨rB_ BK105⟩, ⟨bs_ HB GE105⟩⟩
     case round =>
      clear H; obtain ⟨x3_3, x6_3, rfl, rfl, HA, HK3, BK105, HB⟩ := hrel
      cases gk with
      | zero => exact absurd HA.out (by simp [w0_UnitWeight.l2])
      | succ k3 =>
       have H := HA.out; clear HA; simp only [w0_UnitWeight.l2] at H
       by_cases c19 : x6_3 < (l0_2.length : Int)
       ·rw [if_pos c19] at H; have c19b0 := dE_ c19; clear c19
        by_cases c20 : x3_3 < 1048576
        ·rw [if_pos c20] at H; have c20b0 := dE_ c20; clear c20
         by_cases c21 : 0 ≤ x6_3
         ·rw [if_pos c21] at H; have c21b0 := dE_ c21; clear c21; replace H := aM_ H; obtain ⟨hcz22_0, hcz22_1, hcz22_2, hcz22_3⟩ := cl4_ BK105.out; obtain ⟨hfz22_0, hfz22_1, hfz22_2, hfz22_3⟩ := fz4_ BK105.out; have p110 : 0 ≤ (x6_3 : Int) := oD_; have q110 : x6_3 < (l0_2.length : Int) := oD_; obtain ⟨ad110, e110, hx110_0, hx110_1, hx110_2, hx110_3⟩ := at_T136 HR0_2.out x6_3 p110 q110
          cases e110
          replace hx110_0 := hC_ HB hx110_0; replace hx110_1 := hC_ HB hx110_1; replace hx110_2 := hC_ HB hx110_2; replace hx110_3 := hC_ HB hx110_3; replace p110 := eq_true p110; replace q110 := eq_true q110; go_wp2
          repeat (go_quiet (fail); try go_wp2)
          go_roundg k3
          case measure => have := HJ2.out; have := HJ11.out; have := HK3.out; omega
          case rel => exact ⟨(wrap64 (x3_3 + (wrap64 ((((J136 l0_2 x6_3).f0).size : Int) / 8)))), (wrap64 (x6_3 + 1)), eQ_, eQ_, H, ⟨by have := HJ2.out; have := HJ11.out; have := HK3.out; omega⟩, ⟨rB_ BK105⟩, ⟨bs_ HB GE105⟩⟩
         rw [if_neg c21] at H; exact absurd H (by simp)
        rw [if_neg c20] at H; have c20b0 := dF_ c20; clear c20; obtain rfl := oI_ H; obtain ⟨hcz23_0, hcz23_1, hcz23_2, hcz23_3⟩ := cl4_ BK105.out; obtain ⟨hfz23_0, hfz23_1, hfz23_2, hfz23_3⟩ := fz4_ BK105.out; go_wp2
        repeat (go_quiet (fail); try go_wp2)
        go_ret; exact ⟨eR_, bs_ HB GE105⟩
       rw [if_neg c19] at H; have c19b0 := dF_ c19; clear c19; obtain rfl := oI_ H; obtain ⟨hcz24_0, hcz24_1, hcz24_2, hcz24_3⟩ := cl4_ BK105.out; obtain ⟨hfz24_0, hfz24_1, hfz24_2, hfz24_3⟩ := fz4_ BK105.out; go_wp2
       repeat (go_quiet (fail); try go_wp2)
       go_ret; exact ⟨eR_, bs_ HB GE105⟩
end
end Go.Proofs.YtibfkkjkahpobaaGreat.PDag
