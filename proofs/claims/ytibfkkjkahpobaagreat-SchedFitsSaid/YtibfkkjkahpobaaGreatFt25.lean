import Derived.Test.YtibfkkjkahpobaaGreatFt15
import Derived.Test.YtibfkkjkahpobaaGreatFt16
import Derived.Test.YtibfkkjkahpobaaGreatFt17
import Derived.Test.YtibfkkjkahpobaaGreatFt18
import Derived.Test.YtibfkkjkahpobaaGreatFt24
set_option linter.unusedVariables false
set_option linter.unusedSimpArgs false
set_option maxHeartbeats 8000000
set_option maxRecDepth 100000
open Go.RowKit Go.Proofs.YtibfkkjkahpobaaGreatW.PrintWords Go.Proofs.YtibfkkjkahpobaaGreatW.PrintLast Go.Proofs.YtibfkkjkahpobaaGreatW.PrintMore
namespace Go.Proofs.YtibfkkjkahpobaaGreat.PDag
section
attribute [local go_sem] max2_int min2_int max_two min_two max_three min_three max_four min_four
def r3_Writes.f (a0_0 : Int) (a0_1 : Int) (a0_2 : Int) (a0_3 : Int) (a0_4 : Int) (a0_5 : ByteArray) : Option (Int) := (r3_Form.f a0_0).bind fun t352 => ((r3_HasD.f t352).bind fun t353 => (if t353 = true then (some a0_1) else (some (-1))))
theorem r3_Writes.calls (a0_0 : Int) (a0_1 : Int) (a0_2 : Int) (a0_3 : Int) (a0_4 : Int) (a0_5 : ByteArray) (r : Int) (w : World) (h : r3_Writes.f a0_0 a0_1 a0_2 a0_3 a0_4 a0_5 = some r) :
    Calls Tryz.prog 77 #[.agg #[.int .i64 a0_0, .int .i64 a0_1, .int .i64 a0_2, .int .i64 a0_3, .int .i64 a0_4, .string a0_5]] w fun e w' => e = .returned (.int .i64 r) ∧ Below w.heap.size w w' := by
 have hu24 := Tryz.underlying24; have HB := aM_ (Below.refl w.heap.size w); have H : ((r3_Form.f a0_0).bind fun t352 => ((r3_HasD.f t352).bind fun t353 => (if t353 = true then (some a0_1) else (some (-1))))) = some r := h; clear h; obtain ⟨t352, A2, H⟩ := oB_ H; obtain ⟨t353, A3, H⟩ := oB_ H
 by_cases c4 : t353 = true
 ·subst c4; rw [if_pos rfl] at H; obtain rfl := oI_ H; go_enter Tryz.func77, Tryz.ntmps77
  go_wp2_with (first | ((with_reducible refine gate_dst (N := 1) rfl ?_); refine bX_ (N := 1) (cs := #[.int .i64 a0_0, .int .i64 a0_1, .int .i64 a0_2, .int .i64 a0_3, .int .i64 a0_4, .string a0_5]) (t := 24) ?_; intro gb351 hg w5 hbox hb; replace BK351 := aM_ (hbox); replace GW351 := aM_ (gE_ hg (bl_ HB)); replace GE351 := aM_ (gE_ hg (bl_ HB)); replace HB := aM_ (bT_ (bl_ HB) hb); clear hb hbox hg; obtain ⟨hcz6_0, hcz6_1, hcz6_2, hcz6_3, hcz6_4, hcz6_5⟩ := cl6_ BK351.out; obtain ⟨hfz6_0, hfz6_1, hfz6_2, hfz6_3, hfz6_4, hfz6_5⟩ := fz6_ BK351.out) | ((with_reducible refine gC_ (f := 67) rfl ?_); refine gL_ (some 5) Tryz.func67 #[.int .i64 a0_0] rfl ?_; (with_reducible refine (r3_Form.calls a0_0 t352 _ A2.out).mono ?_); rintro e w7 ⟨rfl, hb⟩; refine ⟨_, rfl, ?_⟩; replace BK351 := aM_ (kB_ (rB_ BK351) hb); replace HB := aM_ (bT_ (bs_ HB GE351) hb)) | ((with_reducible refine gC_ (f := 69) rfl ?_); refine gL_ (some 6) Tryz.func69 #[.int .i64 t352] rfl ?_; (with_reducible refine (r3_HasD.calls t352 true _ A3.out).mono ?_); rintro e w' ⟨rfl, ⟨nd, rfl⟩⟩; refine ⟨_, rfl, ?_⟩; obtain ⟨hcz8_0, hcz8_1, hcz8_2, hcz8_3, hcz8_4, hcz8_5⟩ := cl6_ BK351.out; obtain ⟨hfz8_0, hfz8_1, hfz8_2, hfz8_3, hfz8_4, hfz8_5⟩ := fz6_ BK351.out))
  go_ret; exact ⟨eR_, bs_ HB GE351⟩
 replace c4 := eF_ c4; subst c4; rw [if_neg Bool.false_ne_true] at H; obtain rfl := oI_ H; go_enter Tryz.func77, Tryz.ntmps77
 go_wp2_with (first | ((with_reducible refine gate_dst (N := 1) rfl ?_); refine bX_ (N := 1) (cs := #[.int .i64 a0_0, .int .i64 a0_1, .int .i64 a0_2, .int .i64 a0_3, .int .i64 a0_4, .string a0_5]) (t := 24) ?_; intro gb351 hg w9 hbox hb; replace BK351 := aM_ (hbox); replace GW351 := aM_ (gE_ hg (bl_ HB)); replace GE351 := aM_ (gE_ hg (bl_ HB)); replace HB := aM_ (bT_ (bl_ HB) hb); clear hb hbox hg; obtain ⟨hcz10_0, hcz10_1, hcz10_2, hcz10_3, hcz10_4, hcz10_5⟩ := cl6_ BK351.out; obtain ⟨hfz10_0, hfz10_1, hfz10_2, hfz10_3, hfz10_4, hfz10_5⟩ := fz6_ BK351.out) | ((with_reducible refine gC_ (f := 67) rfl ?_); refine gL_ (some 5) Tryz.func67 #[.int .i64 a0_0] rfl ?_; (with_reducible refine (r3_Form.calls a0_0 t352 _ A2.out).mono ?_); rintro e w11 ⟨rfl, hb⟩; refine ⟨_, rfl, ?_⟩; replace BK351 := aM_ (kB_ (rB_ BK351) hb); replace HB := aM_ (bT_ (bs_ HB GE351) hb)) | ((with_reducible refine gC_ (f := 69) rfl ?_); refine gL_ (some 6) Tryz.func69 #[.int .i64 t352] rfl ?_; (with_reducible refine (r3_HasD.calls t352 false _ A3.out).mono ?_); rintro e w' ⟨rfl, ⟨nd, rfl⟩⟩; refine ⟨_, rfl, ?_⟩))
 go_ret; exact ⟨eR_, bs_ HB GE351⟩
def r0_In.l0 : Nat → List Int → Int → Int → Option (Int)
  | 0, _, _, _ => none
  | k + 1, x0, x1, x5 => if x5 < (x0.length : Int) then (if 0 ≤ x5 then (if (rd x0 x5) = x1 then (some x5) else (r0_In.l0 k x0 x1 (wrap64 (x5 + 1)))) else (none)) else (some (-1))
def r0_In.f (k : Nat) (l0 : List Int) (a1 : Int) : Option (Int) := r0_In.l0 k l0 a1 0
theorem r0_In.calls (k : Nat) (A0 : Option Addr) (c0 : Nat) (l0 : List Int) (a1 : Int) (r : Int) (w : World) (hr0 : Kd.C (Kd.int .i64) w A0 l0.length l0) (hc0 : l0.length ≤ c0) (h : r0_In.f k l0 a1 = some r) :
    Calls Tryz.prog 78 #[.slice A0 l0.length c0, .int .i64 a1] w fun e w' => e = .returned (.int .i64 r) ∧ Dr_ w w' := by
 have HR0 := aM_ hr0; have HC0 := aM_ hc0; clear hr0 hc0; have H : (r0_In.l0 k l0 a1 0) = some r := h; clear h; replace H := aM_ H; go_enter Tryz.func78, Tryz.ntmps78; go_wp2
 go_loopg [5] k (fun kq v5 w' => ∃ (x5_1 : Int), v5 = .int .i64 x5_1 ∧ As_ (r0_In.l0 kq l0 a1 x5_1 = some r) ∧ As_ (kq ≤ k) ∧ Dr_ w w')
 case atStart => exact ⟨(0), eQ_, H, ⟨Nat.le_refl _⟩, dR_⟩
 case round =>
  clear H; obtain ⟨x5_1, rfl, HA, HK1, ⟨m1, rfl⟩⟩ := hrel
  cases gk with
  | zero => exact absurd HA.out (by simp [r0_In.l0])
  | succ k1 =>
   have H := HA.out; clear HA; simp only [r0_In.l0] at H
   by_cases c3 : x5_1 < (l0.length : Int)
   ·rw [if_pos c3] at H; have c3b0 := dE_ c3; clear c3
    by_cases c4 : 0 ≤ x5_1
    ·rw [if_pos c4] at H; have c4b0 := dE_ c4; clear c4
     by_cases c5 : (rd l0 x5_1) = a1
     ·rw [if_pos c5] at H; have c5b0 := bH_ c5; have c5b1 := bF_ c5; clear c5; obtain rfl := oI_ H; have p354 : 0 ≤ (x5_1 : Int) := oD_; have q354 : x5_1 < (l0.length : Int) := oD_; obtain ⟨ad354, e354, hx354_0⟩ := Kd.at_int HR0.out x5_1 p354 q354
      cases e354
      replace p354 := eq_true p354; replace q354 := eq_true q354; go_wp2; go_ret; exact ⟨eQ_, dR_⟩
     rw [if_neg c5] at H; have c5b0 := bE_ c5; have c5b1 := bG_ c5; replace H := aM_ H; have p354 : 0 ≤ (x5_1 : Int) := oD_; have q354 : x5_1 < (l0.length : Int) := oD_; obtain ⟨ad354, e354, hx354_0⟩ := Kd.at_int HR0.out x5_1 p354 q354
     cases e354
     replace p354 := eq_true p354; replace q354 := eq_true q354; go_wp2
     go_roundg k1
     case measure => have := HK1.out; omega
     case rel => exact ⟨(wrap64 (x5_1 + 1)), eQ_, H, ⟨by have := HK1.out; omega⟩, dR_⟩
    rw [if_neg c4] at H; exact absurd H (by simp)
   rw [if_neg c3] at H; have c3b0 := dF_ c3; clear c3; obtain rfl := oI_ H; go_wp2; go_ret; exact ⟨eQ_, dR_⟩
def r3_Reads.j0 : Nat → List Int → Int → Int → Int → Int → Int → Int → ByteArray → Option (List Int)
  | 0, _, _, _, _, _, _, _, _ => none
  | k + 1, x3, x4, x356a, x356b, x356c, x356d, x356e, x356f => (r3_HasB.f x4).bind fun t361 => (if t361 = true then (if x3.length < 17592186044416 then (some (x3 ++ [x356d])) else (none)) else (some x3))
def r3_Reads.f (k : Nat) (a0_0 : Int) (a0_1 : Int) (a0_2 : Int) (a0_3 : Int) (a0_4 : Int) (a0_5 : ByteArray) : Option (List Int) := (r3_Form.f a0_0).bind fun t356 => ((r3_HasA.f t356).bind fun t357 => (if t357 = true then (if ([] : List Int).length < 17592186044416 then (r3_Reads.j0 k (([] : List Int) ++ [a0_2]) t356 a0_0 a0_1 a0_2 a0_3 a0_4 a0_5) else (none)) else (r3_Reads.j0 k ([] : List Int) t356 a0_0 a0_1 a0_2 a0_3 a0_4 a0_5)))
theorem r3_Reads.calls (k : Nat) (a0_0 : Int) (a0_1 : Int) (a0_2 : Int) (a0_3 : Int) (a0_4 : Int) (a0_5 : ByteArray) (r : List Int) (w : World) (h : r3_Reads.f k a0_0 a0_1 a0_2 a0_3 a0_4 a0_5 = some r) :
    Calls Tryz.prog 79 #[.agg #[.int .i64 a0_0, .int .i64 a0_1, .int .i64 a0_2, .int .i64 a0_3, .int .i64 a0_4, .string a0_5]] w fun e w' => ∃ v0_ : Value, e = .returned (v0_) ∧ Kd.R (Kd.int .i64) 3 w' w.heap.size (fun _ => True) v0_ r ∧ Below w.heap.size w w' := by
 have hu24 := Tryz.underlying24; have HB := aM_ (Below.refl w.heap.size w); have H : ((r3_Form.f a0_0).bind fun t356 => ((r3_HasA.f t356).bind fun t357 => (if t357 = true then (if ([] : List Int).length < 17592186044416 then (r3_Reads.j0 k (([] : List Int) ++ [a0_2]) t356 a0_0 a0_1 a0_2 a0_3 a0_4 a0_5) else (none)) else (r3_Reads.j0 k ([] : List Int) t356 a0_0 a0_1 a0_2 a0_3 a0_4 a0_5)))) = some r := h; clear h; obtain ⟨t356, A2, H⟩ := oB_ H; obtain ⟨t357, A3, H⟩ := oB_ H; have HC4 := aM_ H; clear H; go_enter Tryz.func79, Tryz.ntmps79
 go_upto_if 9 with (first | ((with_reducible refine gate_dst (N := 1) rfl ?_); refine bX_ (N := 1) (cs := #[.int .i64 a0_0, .int .i64 a0_1, .int .i64 a0_2, .int .i64 a0_3, .int .i64 a0_4, .string a0_5]) (t := 24) ?_; intro gb355 hg w5 hbox hb; replace BK355 := aM_ (hbox); replace GW355 := aM_ (gE_ hg (bl_ HB)); replace GE355 := aM_ (gE_ hg (bl_ HB)); replace HB := aM_ (bT_ (bl_ HB) hb); clear hb hbox hg; obtain ⟨hcz6_0, hcz6_1, hcz6_2, hcz6_3, hcz6_4, hcz6_5⟩ := cl6_ BK355.out; obtain ⟨hfz6_0, hfz6_1, hfz6_2, hfz6_3, hfz6_4, hfz6_5⟩ := fz6_ BK355.out) | ((with_reducible refine gC_ (f := 67) rfl ?_); refine gL_ (some 7) Tryz.func67 #[.int .i64 a0_0] rfl ?_; (with_reducible refine (r3_Form.calls a0_0 t356 _ A2.out).mono ?_); rintro e w7 ⟨rfl, hb⟩; refine ⟨_, rfl, ?_⟩; replace BK355 := aM_ (kB_ (rB_ BK355) hb); replace HB := aM_ (bT_ (bs_ HB GE355) hb)) | ((with_reducible refine gC_ (f := 70) rfl ?_); refine gL_ (some 9) Tryz.func70 #[.int .i64 t356] rfl ?_; (with_reducible refine (r3_HasA.calls t356 t357 _ A3.out).mono ?_); rintro e w' ⟨rfl, ⟨nd, rfl⟩⟩; refine ⟨_, rfl, ?_⟩))
 (try simp only [Act.put, List.setIfInBounds_toArray, List.set_cons_zero, List.set_cons_succ])
 go_cut [3] (fun v3 wc => ∃ (kq : Nat) (x3_3 : List Int), As_ (r3_Reads.j0 kq x3_3 t356 a0_0 a0_1 a0_2 a0_3 a0_4 a0_5 = some r) ∧ As_ (kq ≤ k) ∧ As_ (Kd.R (Kd.int .i64) 3 wc w.heap.size (fun _ => True) v3 x3_3) ∧ As_ (wc.heap[gb355]? = some (.cells #[.int .i64 a0_0, .int .i64 a0_1, .int .i64 a0_2, .int .i64 a0_3, .int .i64 a0_4, .string a0_5] 24 (0, 0))) ∧ As_ (Below w.heap.size w wc))
 case first =>
  have H := HC4.out; clear HC4
  by_cases c8 : t357 = true
  ·subst c8; rw [if_pos rfl] at H
   by_cases c9 : ([] : List Int).length < 17592186044416
   ·rw [if_pos c9] at H; have LMc9 := aM_ c9; clear c9; obtain ⟨y358, hy358⟩ : ∃ y_ : List Int, y_ = (([] : List Int) ++ [a0_2]) := ⟨_, rfl⟩
    replace H : (r3_Reads.j0 k y358 t356 a0_0 a0_1 a0_2 a0_3 a0_4 a0_5) = some r := by first | (rw [hy358]; with_reducible exact H) | (have H2_ := (Option.bind_some _ _).symm.trans H; rw [hy358]; with_reducible exact H2_) | (have H2_ := (Option.bind_some _ _).symm.trans H; with_reducible exact H2_) | with_reducible exact H | (rw [hy358]; exact H) | exact H
    have Ny358 := aM_ hy358; clear hy358; replace H := aM_ H; obtain ⟨hcz10_0, hcz10_1, hcz10_2, hcz10_3, hcz10_4, hcz10_5⟩ := cl6_ BK355.out; obtain ⟨hfz10_0, hfz10_1, hfz10_2, hfz10_3, hfz10_4, hfz10_5⟩ := fz6_ BK355.out
    go_wp2_with (first | ((with_reducible refine gate_builtin (b := .append) (xs := #[.tmp 10, .tmp 13]) rfl ?_); at_builtin; refine Kd.R_append (Kd.int .i64) (w0 := w) w.heap.size rfl (.tmp 10) (.tmp 13) 25 3 (.int .i64 0) 8 rfl Tryz.underlying25 info3 rfl (by decide) (by omega) (.slice none 0 0) ([] : List Int) a0_2 [.int .i64 a0_2] (fun _ => True) (fun _ => False) rfl rfl ?aP (fun _ hk => hk.elim) ?aF ?aO ?aB ?aS ?aL ?_; (case aP => exact rfl); (case aB => exact (bs_ HB GE355)); (case aF => exact (fun _ _ => trivial)); (case aO => exact ((Kd.R_nil _ _ _ _ (fun _ => True)))); (case aS => exact (bY_ (bs_ HB GE355))); (case aL => have := LMc9.out; omega); intro v359 w11 ho hb hg hat; rw [← Ny358.out] at ho; replace BK355 := aM_ (blk_grown (g := gb355) (o := .cells #[.int .i64 a0_0, .int .i64 a0_1, .int .i64 a0_2, .int .i64 a0_3, .int .i64 a0_4, .string a0_5] 24 (0, 0)) (rB_ BK355) hg (by simp [Value.ownBlock])); replace HB := aM_ (hb); replace HO360 := aM_ (ho); clear ho hb hg hat))
    go_meet
    case rel => exact ⟨_, (y358), H, ⟨by first | omega | exact Nat.le_refl _⟩, ⟨rR_ HO360⟩, ⟨rB_ BK355⟩, ⟨bs_ HB GE355⟩⟩
   rw [if_neg c9] at H; exact absurd H (by simp)
  replace c8 := eF_ c8; subst c8; rw [if_neg Bool.false_ne_true] at H; replace H := aM_ H; go_wp2
  go_meet
  case rel => exact ⟨_, (([] : List Int)), H, ⟨by first | omega | exact Nat.le_refl _⟩, ⟨by first | exact Kd.R_nil _ _ _ _ _ | exact Kd.N_nil _ _ _ _ _ | exact Kd.V_nil _ _ _ _ _ | exact Kd.Q_nil _ _ _ _ _ | exact Kd.S_nil _ _ _ _ _⟩, ⟨rB_ BK355⟩, ⟨bs_ HB GE355⟩⟩
 case rest =>
  clear HC4; obtain ⟨kq, x3_3, HA, HJ3, HO_3, BK355, HB⟩ := hcut
  cases kq with
  | zero => exact absurd HA.out (by simp [r3_Reads.j0])
  | succ kj3 =>
   have H := HA.out; clear HA; simp only [r3_Reads.j0] at H; obtain ⟨t361, A12, H⟩ := oB_ H
   by_cases c13 : t361 = true
   ·subst c13; rw [if_pos rfl] at H
    by_cases c14 : x3_3.length < 17592186044416
    ·rw [if_pos c14] at H; have LMc14 := aM_ c14; clear c14; obtain ⟨y362, hy362⟩ : ∃ y_ : List Int, y_ = (x3_3 ++ [a0_3]) := ⟨_, rfl⟩
     replace H : (some y362) = some r := by first | (rw [hy362]; with_reducible exact H) | (have H2_ := (Option.bind_some _ _).symm.trans H; rw [hy362]; with_reducible exact H2_) | (have H2_ := (Option.bind_some _ _).symm.trans H; with_reducible exact H2_) | with_reducible exact H | (rw [hy362]; exact H) | exact H
     have Ny362 := aM_ hy362; clear hy362; obtain rfl := oI_ H
     go_wp2_with (first | ((with_reducible refine gC_ (f := 71) rfl ?_); refine gL_ (some 16) Tryz.func71 #[.int .i64 t356] rfl ?_; (with_reducible refine (r3_HasB.calls t356 true _ A12.out).mono ?_); rintro e w' ⟨rfl, ⟨nd, rfl⟩⟩; refine ⟨_, rfl, ?_⟩; obtain ⟨hcz15_0, hcz15_1, hcz15_2, hcz15_3, hcz15_4, hcz15_5⟩ := cl6_ BK355.out; obtain ⟨hfz15_0, hfz15_1, hfz15_2, hfz15_3, hfz15_4, hfz15_5⟩ := fz6_ BK355.out) | ((with_reducible refine gate_builtin (b := .append) (xs := #[.tmp 17, .tmp 20]) rfl ?_); at_builtin; refine Kd.R_append (Kd.int .i64) (w0 := w) w.heap.size rfl (.tmp 17) (.tmp 20) 25 3 (.int .i64 0) 8 rfl Tryz.underlying25 info3 rfl (by decide) (by omega) u3 x3_3 a0_3 [.int .i64 a0_3] (fun _ => True) (fun _ => False) rfl rfl ?aP (fun _ hk => hk.elim) ?aF ?aO ?aB ?aS ?aL ?_; (case aP => exact rfl); (case aB => exact (bs_ HB GE355)); (case aF => exact (fun _ _ => trivial)); (case aO => exact (rR_ HO_3)); (case aS => exact (bY_ (bs_ HB GE355))); (case aL => have := LMc14.out; omega); intro v363 w16 ho hb hg hat; rw [← Ny362.out] at ho; replace BK355 := aM_ (blk_grown (g := gb355) (o := .cells #[.int .i64 a0_0, .int .i64 a0_1, .int .i64 a0_2, .int .i64 a0_3, .int .i64 a0_4, .string a0_5] 24 (0, 0)) (rB_ BK355) hg (Kd.R_ne HO_3.out BK355.out (by decide))); replace HB := aM_ (hb); replace HO364 := aM_ (ho); clear HO_3; clear ho hb hg hat))
     go_ret; exact ⟨_, eR_, rR_ HO364, bs_ HB GE355⟩
    rw [if_neg c14] at H; exact absurd H (by simp)
   replace c13 := eF_ c13; subst c13; rw [if_neg Bool.false_ne_true] at H; obtain rfl := oI_ H
   go_wp2_with (first | ((with_reducible refine gC_ (f := 71) rfl ?_); refine gL_ (some 16) Tryz.func71 #[.int .i64 t356] rfl ?_; (with_reducible refine (r3_HasB.calls t356 false _ A12.out).mono ?_); rintro e w' ⟨rfl, ⟨nd, rfl⟩⟩; refine ⟨_, rfl, ?_⟩))
   go_ret; exact ⟨_, eR_, rR_ HO_3, bs_ HB GE355⟩
end
section
attribute [local go_sem] max2_int min2_int max_two min_two max_three min_three max_four min_four
end
section
attribute [local go_sem] max2_int min2_int max_two min_two max_three min_three max_four min_four
end
section
attribute [local go_sem] max2_int min2_int max_two min_two max_three min_three max_four min_four
end
section
attribute [local go_sem] max2_int min2_int max_two min_two max_three min_three max_four min_four
end
section
attribute [local go_sem] max2_int min2_int max_two min_two max_three min_three max_four min_four
end
section
attribute [local go_sem] max2_int min2_int max_two min_two max_three min_three max_four min_four
end
section
def okI (x : S24) : Bool := insOk x.f0 x.f1 x.f2 x.f3 x.f4 x.f5
def endsOp (op : Int) : Bool := decide (28 ≤ op) && decide (op ≤ 33)
def plainI (x : S24) : Bool := okI x && (!endsOp x.f0 && (x.f0 != 0))
theorem ins_parts {op d a b imm : Int} {s : ByteArray} (h : insOk op d a b imm s = true) : (0 ≤ op ∧ op ≤ 33) ∧ regOk (hasD (formOf op)) d = true ∧ regOk (hasA (formOf op)) a = true ∧ regOk (hasB (formOf op)) b = true ∧ immOk (formOf op) imm s = true := by
  unfold insOk at h; simpa [and_assoc] using h
theorem reg_parts {has : Bool} {n : Int} (h : regOk has n = true) : 0 ≤ n ∧ n ≤ 15 ∧ (has = false → n = 0) := by
  unfold regOk at h
  cases has <;> simp at h ⊢ <;> omega
theorem ends_eq (op : Int) : isa_Ends.f op = some (endsOp op) := by
  unfold isa_Ends.f endsOp
  by_cases h : 28 ≤ op <;> simp [h]
theorem rends_eq (op : Int) : r3_Ends.f op = some (endsOp op) := by
  unfold r3_Ends.f r0_Between.f endsOp
  by_cases h : 28 ≤ op <;> simp [h]
theorem plain_eq {k : Nat} (hk : 60 ≤ k) (x : S24) : block_Plain.f k x.f0 x.f1 x.f2 x.f3 x.f4 x.f5 = some (plainI x) := by
  unfold block_Plain.f plainI okI; rw [isa_ins_eq (by omega)]; simp only [Option.bind_some, ends_eq]
  cases insOk x.f0 x.f1 x.f2 x.f3 x.f4 x.f5 <;> cases endsOp x.f0 <;> simp
theorem may1_eq {k : Nat} (hk : 60 ≤ k) (x : S24) : dag_May_1.f k x.f0 x.f1 x.f2 x.f3 x.f4 x.f5 = some (!plainI x) := by
  unfold dag_May_1.f; rw [plain_eq hk]; rfl
def allPlain (l : List S24) : Bool := l.all plainI
def mayL (l : List S24) : Bool := decide (l.length ≤ 200) && allPlain l
theorem rd_at (l : List S24) (i : Nat) (h : i < l.length) : J24 l (i : Int) = l[i] := by
  unfold J24; rw [Int.toNat_natCast, List.getD_eq_getElem?_getD, List.getElem?_eq_getElem h]; rfl
theorem wrap_at {n : Nat} (h : n ≤ 1000000000000) : wrap64 ((n : Int) + 1) = ((n + 1 : Nat) : Int) := by unfold wrap64; omega
theorem idx_loop (l : List S24) (hl : l.length ≤ 1000000000) : ∀ (d : Nat) (k i : Nat), i + d = l.length → 61 + d ≤ k →
    ∃ r, aI62_88062.l0 k l (l.length : Int) (i : Int) = some r ∧ (decide (r ≥ 0) = !((l.drop i).all plainI))
  | 0, k, i, hi, hk => by
    obtain ⟨k, rfl⟩ : ∃ k', k = k' + 1 := ⟨k - 1, by omega⟩
    refine ⟨-1, ?_, ?_⟩
    · unfold aI62_88062.l0; rw [if_neg (by omega)]
    · rw [List.drop_of_length_le (by omega)]; simp
  | d + 1, k, i, hi, hk => by
    obtain ⟨k, rfl⟩ : ∃ k', k = k' + 1 := ⟨k - 1, by omega⟩
    have hlt : i < l.length := by omega
    unfold aI62_88062.l0; rw [if_pos (by omega), if_pos (by omega), if_pos (by omega), may1_eq (by omega), wrap_at (by omega), rd_at l i hlt, List.drop_eq_getElem_cons hlt]; simp only [Option.bind_some, List.all_cons]
    cases hp : plainI l[i] with
    | false => exact ⟨_, rfl, by simp⟩
    | true =>
      simp only [Bool.not_true, Bool.false_eq_true, if_false, Bool.true_and]; exact idx_loop l hl d k (i + 1) (by omega) (by omega)
theorem may_eq {k : Nat} (l : List S24) (hl : l.length ≤ 1000000000) (hk : 300 ≤ k) : dag_May.f k l = some (mayL l) := by
  unfold dag_May.f mayL
  by_cases h : l.length ≤ 200
  · rw [if_pos (by omega)]; unfold aI62_56062.f aI62_88062.f; obtain ⟨r, h1, h2⟩ := idx_loop l hl l.length k 0 (by omega) (by omega); rw [show ((0 : Nat) : Int) = 0 from rfl] at h1; rw [h1]; simp only [Option.bind_some, h2, List.drop_zero]; unfold allPlain; simp [h]
  · rw [if_neg (by omega)]; simp [h]
def effOp (op : Int) : Bool := op == 16 || (op == 17 || ((decide (24 ≤ op) && decide (op ≤ 27)) || (decide (31 ≤ op) && decide (op ≤ 33))))
def lateOp (op : Int) : Int := if op = 14 ∨ op = 15 ∨ op = 26 then 2 else if op = 20 ∨ op = 24 then 3 else if op = 16 ∨ op = 17 then 4 else 1
theorem eff_eq {k : Nat} (hk : 5 ≤ k) (op : Int) (h0 : 0 ≤ op) (h1 : op ≤ 33) : isa_Effect.f k op = some (effOp op) :=
  at_rounds (isa_Effect.mono op) hk (upto34 (p := fun op => isa_Effect.f 5 op = some (effOp op)) (by decide) op h0 h1)
theorem reff_eq (op : Int) (h0 : 0 ≤ op) (h1 : op ≤ 33) : r3_Effect.f op = some (effOp op) :=
  upto34 (p := fun op => r3_Effect.f op = some (effOp op)) (by decide) op h0 h1
theorem late_eq {k : Nat} (hk : 5 ≤ k) (op : Int) (h0 : 0 ≤ op) (h1 : op ≤ 33) : isa_Late.f k op = some (lateOp op) :=
  at_rounds (isa_Late.mono op) hk (upto34 (p := fun op => isa_Late.f 5 op = some (lateOp op)) (by decide) op h0 h1)
theorem rlate_eq {k : Nat} (hk : 5 ≤ k) (op : Int) (h0 : 0 ≤ op) (h1 : op ≤ 33) : r3_Latency.f k op = some (lateOp op) :=
  at_rounds (r3_Latency.mono op) hk (upto34 (p := fun op => r3_Latency.f 5 op = some (lateOp op)) (by decide) op h0 h1)
def readsL (x : S24) : List Int := (if hasA (formOf x.f0) = true then [x.f2] else []) ++ (if hasB (formOf x.f0) = true then [x.f3] else [])
theorem readsL_len (x : S24) : (readsL x).length ≤ 2 := by
  unfold readsL
  cases hasA (formOf x.f0) <;> cases hasB (formOf x.f0) <;> simp
theorem read_eq {k : Nat} (hk : 12 ≤ k) (x : S24) (h0 : 0 ≤ x.f0) (h1 : x.f0 ≤ 33) : isa_Read.f k x.f0 x.f1 x.f2 x.f3 x.f4 x.f5 = some (readsL x) := by
  obtain ⟨k, rfl⟩ : ∃ k', k = k' + 1 := ⟨k - 1, by omega⟩
  obtain ⟨f0, f1⟩ := formOf_range x.f0 h0 h1; unfold isa_Read.f readsL; rw [shape_eq (by omega) _ h0 h1]; simp only [Option.bind_some]; rw [isa_hasA (by omega) _ f0 f1]; simp only [Option.bind_some]; unfold isa_Read.j0; simp only [isa_hasB _ f0 f1, Option.bind_some]
  cases hasA (formOf x.f0) <;> cases hasB (formOf x.f0) <;> simp
theorem rreads_eq {k : Nat} (hk : 12 ≤ k) (x : S24) (h0 : 0 ≤ x.f0) (h1 : x.f0 ≤ 33) : r3_Reads.f k x.f0 x.f1 x.f2 x.f3 x.f4 x.f5 = some (readsL x) := by
  obtain ⟨k, rfl⟩ : ∃ k', k = k' + 1 := ⟨k - 1, by omega⟩
  obtain ⟨f0, f1⟩ := formOf_range x.f0 h0 h1; unfold r3_Reads.f readsL; rw [form_eq _ h0 h1]; simp only [Option.bind_some, ref_hasA _ f0 f1]; unfold r3_Reads.j0; simp only [ref_hasB _ f0 f1, Option.bind_some]
  cases hasA (formOf x.f0) <;> cases hasB (formOf x.f0) <;> simp
def rdsP (x y : S24) : Bool := hasD (formOf y.f0) && (readsL x).any (fun r => y.f1 == r)
theorem writes_eq {k : Nat} (hk : 12 ≤ k) (y : S24) (r : Int) (h0 : 0 ≤ y.f0) (h1 : y.f0 ≤ 33) : dag_writes.f k y.f0 y.f1 y.f2 y.f3 y.f4 y.f5 r = some (hasD (formOf y.f0) && y.f1 == r) := by
  obtain ⟨f0, f1⟩ := formOf_range y.f0 h0 h1; unfold dag_writes.f; rw [shape_eq (by omega) _ h0 h1]; simp only [Option.bind_some, isa_hasD _ f0 f1]
  cases hasD (formOf y.f0) <;> simp
theorem reads1_eq {k : Nat} (hk : 12 ≤ k) (y : S24) (r : Int) (h0 : 0 ≤ y.f0) (h1 : y.f0 ≤ 33) : dag_reads_1.f k r y.f0 y.f1 y.f2 y.f3 y.f4 y.f5 = some (hasD (formOf y.f0) && y.f1 == r, y.f0, y.f1, y.f2, y.f3, y.f4, y.f5) := by
  unfold dag_reads_1.f; rw [writes_eq hk y r h0 h1]; rfl
theorem index_loop (rs : List Int) (hl : rs.length ≤ 1000) (y : S24) (h0 : 0 ≤ y.f0) (h1 : y.f0 ≤ 33) : ∀ (d : Nat) (k i : Nat), i + d = rs.length → 13 + d ≤ k →
    ∃ r, sI_111.l0 k rs (rs.length : Int) (i : Int) y.f0 y.f1 y.f2 y.f3 y.f4 y.f5 = some (r, y.f0, y.f1, y.f2, y.f3, y.f4, y.f5) ∧ (decide (r ≥ 0) = (hasD (formOf y.f0) && (rs.drop i).any (fun r => y.f1 == r)))
  | 0, k, i, hi, hk => by
    obtain ⟨k, rfl⟩ : ∃ k', k = k' + 1 := ⟨k - 1, by omega⟩
    refine ⟨-1, ?_, ?_⟩
    · unfold sI_111.l0; rw [if_neg (by omega)]
    · rw [List.drop_of_length_le (by omega)]; simp
  | d + 1, k, i, hi, hk => by
    obtain ⟨k, rfl⟩ : ∃ k', k = k' + 1 := ⟨k - 1, by omega⟩
    have hlt : i < rs.length := by omega
    have hr : rd rs (i : Int) = rs[i] := by
      unfold rd; rw [Int.toNat_natCast, List.getD_eq_getElem?_getD, List.getElem?_eq_getElem hlt]; rfl
    unfold sI_111.l0; rw [if_pos (by omega), if_pos (by omega), if_pos (by omega), reads1_eq (by omega) y _ h0 h1, wrap_at (by omega), hr, List.drop_eq_getElem_cons hlt]; simp only [Option.bind_some, List.any_cons]; obtain ⟨r, h2, h3⟩ := index_loop rs hl y h0 h1 d k (i + 1) (by omega) (by omega)
    cases hd : hasD (formOf y.f0) with
    | false =>
      rw [hd] at h3; simp only [Bool.false_and, Bool.false_eq_true, if_false]
      exact ⟨r, h2, by simpa using h3⟩
    | true =>
      rw [hd] at h3
      cases hp : (y.f1 == rs[i]) with
      | false =>
        simp only [Bool.and_false, Bool.false_eq_true, if_false, Bool.true_and, Bool.false_or]
        exact ⟨r, h2, by simpa using h3⟩
      | true => exact ⟨(i : Int), by simp, by simp⟩
theorem reads_eq {k : Nat} (hk : 30 ≤ k) (x y : S24) (hx : 0 ≤ x.f0 ∧ x.f0 ≤ 33) (hy : 0 ≤ y.f0 ∧ y.f0 ≤ 33) : dag_reads.f k x.f0 x.f1 x.f2 x.f3 x.f4 x.f5 y.f0 y.f1 y.f2 y.f3 y.f4 y.f5 = some (rdsP x y) := by
  unfold dag_reads.f rdsP; rw [read_eq (by omega) x hx.1 hx.2]; simp only [Option.bind_some]; unfold sC_111.f sI_111.f; obtain ⟨r, h1, h2⟩ := index_loop (readsL x) (by have := readsL_len x; omega) y hy.1 hy.2 (readsL x).length k 0 (by omega) (by have := readsL_len x; omega); rw [show ((0 : Nat) : Int) = 0 from rfl] at h1; rw [h1]; simp only [Option.bind_some, List.drop_zero] at h2 ⊢; rw [h2]
theorem in_loop (rs : List Int) (hl : rs.length ≤ 1000) (v : Int) : ∀ (d : Nat) (k i : Nat), i + d = rs.length → 1 + d ≤ k →
    ∃ r, r0_In.l0 k rs v (i : Int) = some r ∧ (decide (r ≥ 0) = (rs.drop i).any (fun r => v == r))
  | 0, k, i, hi, hk => by
    obtain ⟨k, rfl⟩ : ∃ k', k = k' + 1 := ⟨k - 1, by omega⟩
    refine ⟨-1, ?_, ?_⟩
    · unfold r0_In.l0; rw [if_neg (by omega)]
    · rw [List.drop_of_length_le (by omega)]; simp
  | d + 1, k, i, hi, hk => by
    obtain ⟨k, rfl⟩ : ∃ k', k = k' + 1 := ⟨k - 1, by omega⟩
    have hlt : i < rs.length := by omega
    have hr : rd rs (i : Int) = rs[i] := by
      unfold rd; rw [Int.toNat_natCast, List.getD_eq_getElem?_getD, List.getElem?_eq_getElem hlt]; rfl
    unfold r0_In.l0; rw [if_pos (by omega), if_pos (by omega), wrap_at (by omega), hr, List.drop_eq_getElem_cons hlt]; simp only [List.any_cons]
    by_cases hp : rs[i] = v
    · rw [if_pos hp]; exact ⟨_, rfl, by simp [hp]⟩
    · rw [if_neg hp]; obtain ⟨r, h2, h3⟩ := in_loop rs hl v d k (i + 1) (by omega) (by omega); refine ⟨r, h2, ?_⟩; rw [h3, show (v == rs[i]) = false from by simpa using fun e => hp e.symm]; rfl
theorem in_eq {k : Nat} (hk : 5 ≤ k) (x : S24) (v : Int) : ∃ r, r0_In.f k (readsL x) v = some r ∧ (decide (r ≥ 0) = (readsL x).any (fun r => v == r)) := by
  unfold r0_In.f; have := in_loop (readsL x) (by have := readsL_len x; omega) v (readsL x).length k 0 (by omega) (by have := readsL_len x; omega); simpa using this
def dist (x y : S24) : Int :=
  let d := if effOp x.f0 = true ∧ effOp y.f0 = true then 1 else if rdsP x y = true then 0 else -1
  if rdsP y x = true ∨ (hasD (formOf y.f0) = true ∧ hasD (formOf x.f0) = true ∧ x.f1 = y.f1) then mx d (lateOp x.f0) else d
theorem dist_eq {k : Nat} (hk : 40 ≤ k) (x y : S24) (hx : 0 ≤ x.f0 ∧ x.f0 ≤ 33) (hy : 0 ≤ y.f0 ∧ y.f0 ≤ 33) : dag_dist.f k x.f0 x.f1 x.f2 x.f3 x.f4 x.f5 y.f0 y.f1 y.f2 y.f3 y.f4 y.f5 = some (dist x y) := by
  obtain ⟨k, rfl⟩ : ∃ k', k = k' + 4 := ⟨k - 4, by omega⟩
  obtain ⟨f0, f1⟩ := formOf_range y.f0 hy.1 hy.2; unfold dag_dist.f dag_dist.j0 dag_dist.j1 dag_dist.j2 dag_dist.j3; rw [reads_eq (by omega) x y hx hy]; simp only [Option.bind_some]; rw [eff_eq (by omega) _ hx.1 hx.2, eff_eq (by omega) _ hy.1 hy.2, reads_eq (by omega) y x hy hx, shape_eq (by omega) _ hy.1 hy.2]; simp only [Option.bind_some, isa_hasD _ f0 f1]; rw [writes_eq (by omega) x _ hx.1 hx.2, late_eq (by omega) _ hx.1 hx.2]; unfold dist
  cases rdsP x y <;> cases effOp x.f0 <;> cases effOp y.f0 <;> cases rdsP y x <;> cases hasD (formOf y.f0) <;> cases hasD (formOf x.f0) <;> by_cases h : x.f1 = y.f1 <;> simp [h]
def wOf (x : S24) : Int := if hasD (formOf x.f0) = true then x.f1 else -1
theorem rwrites_eq (x : S24) (h0 : 0 ≤ x.f0) (h1 : x.f0 ≤ 33) : r3_Writes.f x.f0 x.f1 x.f2 x.f3 x.f4 x.f5 = some (wOf x) := by
  obtain ⟨f0, f1⟩ := formOf_range x.f0 h0 h1; unfold r3_Writes.f wOf; rw [form_eq _ h0 h1]; simp only [Option.bind_some, ref_hasD _ f0 f1]
  cases hasD (formOf x.f0) <;> simp
theorem okI_op {x : S24} (h : okI x = true) : 0 ≤ x.f0 ∧ x.f0 ≤ 33 := (ins_parts h).1
theorem okI_d {x : S24} (h : okI x = true) : 0 ≤ x.f1 := (reg_parts (ins_parts h).2.1).1
def edgesSeg (l : List S24) (i : Nat) : Nat → Nat → List S100
  | _, 0 => []
  | j, d + 1 => (if 0 ≤ dist (J24 l i) (J24 l j) then [(⟨(i : Int), (j : Int), dist (J24 l i) (J24 l j)⟩ : S100)] else []) ++ edgesSeg l i (j + 1) d
def edgesFrom (l : List S24) (i : Nat) : List S100 := edgesSeg l i (i + 1) (l.length - (i + 1))
def edgesUp (l : List S24) : Nat → Nat → List S100
  | _, 0 => []
  | i, d + 1 => edgesFrom l i ++ edgesUp l (i + 1) d
theorem edgesUp_succ (l : List S24) (i d : Nat) : edgesUp l i (d + 1) = edgesFrom l i ++ edgesUp l (i + 1) d := rfl
def edges (l : List S24) : List S100 := edgesUp l 0 l.length
theorem edgesSeg_len (l : List S24) (i : Nat) : ∀ (d j : Nat), (edgesSeg l i j d).length ≤ d
  | 0, _ => by simp [edgesSeg]
  | d + 1, j => by
    have := edgesSeg_len l i d (j + 1); unfold edgesSeg; split <;> simp <;> omega
def okL (l : List S24) : Prop := ∀ i : Nat, i < l.length → okI (J24 l i) = true
theorem rd_drop (l : List S24) (i j : Nat) (h : i + j < l.length) : J24 (l.drop i) (j : Int) = J24 l ((i + j : Nat) : Int) := by
  rw [rd_at _ _ (by simp; omega), rd_at _ _ h]; simp
theorem own_l1 (l : List S24) (hl : l.length ≤ 1000) (ho : okL l) (i : Nat) (hi : i < l.length) : ∀ (d k : Nat) (acc : List S100) (j : Nat), 50 ≤ k → i + 1 + j + d = l.length → acc.length + d ≤ 1000000000 →
    dag_Edges.l1 (k + d + 1) l acc (i : Int) l (l.length : Int) (i : Int) (l.drop (i + 1)) ((l.drop (i + 1)).length : Int) (j : Int) (J24 l i).f0 (J24 l i).f1 (J24 l i).f2 (J24 l i).f3 (J24 l i).f4 (J24 l i).f5 = dag_Edges.l0 k l (acc ++ edgesSeg l i (i + 1 + j) d) l (l.length : Int) ((i + 1 : Nat) : Int)
  | 0, k, acc, j, hk, hj, hb => by
    unfold dag_Edges.l1; rw [if_neg (by rw [List.length_drop]; omega), wrap_at (by omega)]
    simp [edgesSeg]
  | d + 1, k, acc, j, hk, hj, hb => by
    have hlt : i + 1 + j < l.length := by omega
    rw [show k + (d + 1) + 1 = (k + d + 1) + 1 by omega]; unfold dag_Edges.l1; rw [if_pos (by rw [List.length_drop]; omega), if_pos (by omega), if_pos (by rw [List.length_drop]; omega), rd_drop l (i + 1) j (by omega), dist_eq (by omega) _ _ (okI_op (ho i hi)) (okI_op (ho _ hlt)), wrap_at (n := j) (by omega), wrap_at (n := i) (by omega)]; simp only [Option.bind_some]; have e1 : wrap64 (((i + 1 : Nat) : Int) + (j : Int)) = ((i + 1 + j : Nat) : Int) := by unfold wrap64; omega
    rw [e1]; unfold edgesSeg
    by_cases h : 0 ≤ dist (J24 l i) (J24 l ((i + 1 + j : Nat) : Int))
    · rw [if_pos h, if_pos (by omega), if_pos h, own_l1 l hl ho i hi d k _ (j + 1) hk (by omega) (by simp; omega)]; simp [Nat.add_assoc]
    · rw [if_neg h, if_neg h, own_l1 l hl ho i hi d k _ (j + 1) hk (by omega) (by omega)]; simp [Nat.add_assoc]
theorem own_l0 (l : List S24) (hl : l.length ≤ 1000) (ho : okL l) : ∀ (d k : Nat) (acc : List S100) (i : Nat), i + d = l.length → 60 + d * (l.length + 2) ≤ k → acc.length + d * l.length ≤ 100000000 →
    dag_Edges.l0 k l acc l (l.length : Int) (i : Int) = some (acc ++ edgesUp l i d)
  | 0, k, acc, i, hi, hk, hb => by
    obtain ⟨k, rfl⟩ : ∃ k', k = k' + 1 := ⟨k - 1, by omega⟩
    unfold dag_Edges.l0; rw [if_neg (by omega)]
    simp [edgesUp]
  | d + 1, k, acc, i, hi, hk, hb => by
    have e1 : (d + 1) * (l.length + 2) = d * (l.length + 2) + (l.length + 2) := Nat.succ_mul _ _; have e2 : (d + 1) * l.length = d * l.length + l.length := Nat.succ_mul _ _; obtain ⟨k, rfl⟩ : ∃ k', k = (k' + (l.length - (i + 1)) + 1) + 1 := ⟨k - (l.length - (i + 1)) - 2, by omega⟩
    unfold dag_Edges.l0; rw [if_pos (by omega), if_pos (by omega), if_pos (by omega), wrap_at (by omega), if_pos (by omega), if_pos (by omega)]; simp only [Option.bind_some, Int.toNat_natCast]; have h4 := own_l1 l hl ho i (by omega) (l.length - (i + 1)) k acc 0 (by omega) (by omega) (by omega); rw [show ((0 : Nat) : Int) = 0 from rfl] at h4; rw [h4]; have h3 := edgesSeg_len l i (l.length - (i + 1)) (i + 1); rw [own_l0 l hl ho d k _ (i + 1) (by omega) (by omega) (by simp; omega)]; rw [edgesUp_succ]; unfold edgesFrom; simp
theorem own_edges {k : Nat} (l : List S24) (hl : l.length ≤ 200) (ho : okL l) (hk : 50000 ≤ k) : dag_Edges.f k l = some (edges l) := by
  have hm : l.length * (l.length + 2) ≤ 200 * 202 := Nat.mul_le_mul hl (by omega); have hm2 : l.length * l.length ≤ 200 * 200 := Nat.mul_le_mul hl hl; unfold dag_Edges.f edges; rw [show (0 : Int) = ((0 : Nat) : Int) from rfl, own_l0 l (by omega) ho l.length k [] 0 (by omega) (by omega) (by simp; omega)]; simp
end
section
open Go.RowKit Go.Shelf Go.Proofs.YtibfkkjkahpobaaGreatW.PrintWords Go.Proofs.YtibfkkjkahpobaaGreatW.PrintLast Go.Proofs.YtibfkkjkahpobaaGreatW.PrintMore
attribute [local go_sem] Oper.semAt_some
def Row (base : Nat) (W : World) (g cap n : Nat) (hs : List Int) : Prop := hs.length = n ∧ (Kd.int .i64).R 3 W base (fun k => k = g) (.slice (some ⟨g, 0, none⟩) n cap) hs
theorem Row.step {base : Nat} {W W1 : World} {g cap n : Nat} {hs : List Int} (h : Row base W g cap n hs) (hm : W1.heap[g]? = W.heap[g]?) : Row base W1 g cap n hs :=
  ⟨h.1, Kd.R_step h.2 (fun k hk _ => by subst hk; exact hm)⟩
theorem Row.lt {base : Nat} {W : World} {g cap n : Nat} {hs : List Int} (h : Row base W g cap n hs) : g < W.heap.size := Kd.R_lt h.2 g rfl
theorem Row.ge {base : Nat} {W : World} {g cap n : Nat} {hs : List Int} (h : Row base W g cap n hs) : base ≤ g := Kd.R_base h.2 g rfl
theorem Row.cell {base : Nat} {W : World} {g cap n : Nat} {hs : List Int} (h : Row base W g cap n hs) (i : Int) (h0 : 0 ≤ i) (h1 : i < n) : W.cell? ⟨g, i.toNat, none⟩ = some (.int .i64 (rd hs i)) ∧ W.frozen? ⟨g, i.toNat, none⟩ = false := by
  obtain ⟨rfl, h2⟩ := h; exact Kd.R_cell 0 h2 i h0 h1
theorem Row.put {base : Nat} {W : World} {g cap n : Nat} {hs : List Int} (h : Row base W g cap n hs) (i x : Int) : Row base (W.setCell ⟨g, i.toNat, none⟩ (.int .i64 x)) g cap n (hs.set i.toNat x) := by
  obtain ⟨rfl, h2⟩ := h; exact ⟨by simp, (Kd.R_put h2 i x).1⟩
theorem Row.putN {base : Nat} {W : World} {g cap n : Nat} {hs : List Int} (h : Row base W g cap n hs) (j : Nat) (x : Int) : Row base (W.setCell ⟨g, j, none⟩ (.int .i64 x)) g cap n (hs.set j x) := by
  have h_ := h.put (j : Int) x
  rwa [Int.toNat_natCast] at h_
theorem Row.cells {base : Nat} {W : World} {g cap n : Nat} {hs : List Int} (h : Row base W g cap n hs) : ∃ cells, W.heap[g]? = some (.cells cells 3 (0, 0)) := by
  obtain ⟨rfl, _, inner, h2, _⟩ := h; exact own_typed h2 g rfl
theorem Row.shape {base n0 : Nat} {W : World} {ok : Nat → Prop} {v : Value} {xs : List Int} (h : (Kd.int .i64).R 3 W base ok v xs) (hn : ∃ b, v.ownBlock = some b ∧ n0 ≤ b) : ∃ g cap, v = .slice (some ⟨g, 0, none⟩) xs.length cap ∧ n0 ≤ g ∧ Row base W g cap xs.length xs := by
  obtain ⟨b, hb, hle⟩ := hn; obtain ⟨hok, inner, ho, hr⟩ := h; rcases ho.2 with ⟨rfl, _⟩ | ⟨g, cap, cur, rfl, _⟩
  · simp [Value.ownBlock] at hb
  · have hg : g = b := by simpa [Value.ownBlock] using hb
    subst hg; refine ⟨g, cap, rfl, hle, rfl, ?_, inner, ho, hr.imp_ ?_⟩
    · intro k hk; simpa [Value.ownBlock] using hk.symm
    · intro x cs hx; exact hx
def dag_High.step (h : List Int) (x : S100) : Option (List Int) :=
  if 0 ≤ x.f0 ∧ x.f0 < h.length ∧ 0 ≤ x.f1 ∧ x.f1 < h.length then some (h.set x.f0.toNat (max (rd h x.f0) (wrap64 (x.f2 + rd h x.f1)))) else none
def dag_High.init (k : Nat) : List S24 → Option (List Int)
  | [] => some []
  | x :: xs => (isa_Late.f k x.f0).bind fun v => (dag_High.init k xs).bind fun r => some (v :: r)
def dag_High.f (k : Nat) (l : List S24) (es : List S100) : Option (List Int) := if l.length ≤ 35184372088832 then (dag_High.init k l).bind fun h => es.reverse.foldlM dag_High.step h else none
theorem dag_High.init_at (k : Nat) : ∀ (l : List S24) (h0 : List Int), dag_High.init k l = some h0 → h0.length = l.length ∧ ∀ j : Nat, j < l.length → isa_Late.f k (J24 l j).f0 = some (rd h0 j)
  | [], h0, h => by
    simp only [dag_High.init, Option.some.injEq] at h; subst h
    exact ⟨rfl, fun j hj => absurd hj (Nat.not_lt_zero _)⟩
  | x :: xs, h0, h => by
    simp only [dag_High.init] at h; obtain ⟨v, hv, h⟩ := Option.bind_eq_some_iff.mp h; obtain ⟨r, hr, h⟩ := Option.bind_eq_some_iff.mp h; obtain rfl := Option.some.inj h; obtain ⟨h1, h2⟩ := dag_High.init_at k xs r hr; refine ⟨by simp [h1], fun j hj => ?_⟩
    cases j with
    | zero => simpa [J24, rd] using hv
    | succ j => simpa [J24, rd] using h2 j (by simpa using hj)
theorem dag_High.set_at (h0 : List Int) (n j : Nat) (hn : h0.length = n) (hj : j < n) : (h0.take j ++ List.replicate (n - j) 0).set j (rd h0 j) = h0.take (j + 1) ++ List.replicate (n - (j + 1)) 0 := by
  subst hn; apply List.ext_getElem
  · simp; omega
  · intro i h1 h2; rw [List.getElem_set]
    by_cases e : j = i
    · subst e; rw [if_pos rfl, List.getElem_append_left (by simp; omega)]; simp [rd, hj]
    · rw [if_neg e]
      by_cases hi : i < j
      · rw [List.getElem_append_left (by simp; omega), List.getElem_append_left (by simp; omega)]; simp
      · rw [List.getElem_append_right (by simp; omega), List.getElem_append_right (by simp; omega)]; simp
theorem dag_High.range : ∀ (es : List S100) (h r : List Int), es.foldlM dag_High.step h = some r → (∀ x ∈ es, 0 ≤ x.f0 ∧ x.f0 < h.length ∧ 0 ≤ x.f1 ∧ x.f1 < h.length)
  | [], h, r, _ => by simp
  | x :: es, h, r, hf => by
    rw [List.foldlM_cons] at hf; obtain ⟨h1, hs, hf⟩ := Option.bind_eq_some_iff.mp hf; unfold dag_High.step at hs; split at hs
    · rename_i hc
      have h2 := dag_High.range es h1 r hf; have hl : h1.length = h.length := by rw [← Option.some.inj hs]; simp
      rw [hl] at h2; intro y hy; rcases List.mem_cons.1 hy with rfl | hy
      · exact hc
      · exact h2 y hy
    · exact absurd hs (by simp)
theorem comes_mem (es : List S100) (j : Nat) (hj : j < es.length) : comes es j ∈ es.reverse := by
  unfold comes J100; rw [show ((es.length : Int) - 1 - j).toNat = es.length - 1 - j by omega, List.getD_eq_getElem?_getD, List.getElem?_eq_getElem (by omega)]; simp
theorem own_blk {B : Nat} {X Y : World} {row : Option Nat} {b t : Nat} {cs : Array Value} (hb : X.heap[b]? = some (.cells cs t (0, 0))) (hg : X.grownBy Y row) (hr : ∀ r, row = some r → B ≤ r ∧ ∃ o : Obj, X.heap[r]? = some o ∧ o.isCells = false) : Y.heap[b]? = X.heap[b]? :=
  hg.block b (blk_lt hb) (fun e => by obtain ⟨_, o, ho, hc⟩ := hr b e.symm; rw [hb] at ho; cases ho; cases hc)
theorem dag_High.calls (k : Nat) (A0 : Option Addr) (c0 : Nat) (l0 : List S24) (A1 : Option Addr) (c1 : Nat) (l1 : List S100) (r : List Int) (w : World) (hr0 : Kd.C k24 w A0 l0.length l0) (hc0 : l0.length ≤ c0) (hr1 : Kd.C k100 w A1 l1.length l1) (hc1 : l1.length ≤ c1) (h : dag_High.f k l0 l1 = some r) :
    Calls Tryz.prog 64 #[.slice A0 l0.length c0, .slice A1 l1.length c1] w fun e w' => ∃ v0_ : Value, e = .returned (v0_) ∧ Kd.R (Kd.int .i64) 3 w' w.heap.size (fun _ => True) v0_ r ∧ Below w.heap.size w w' := by
  have hu24 := Tryz.underlying24; have hu100 := Tryz.underlying100; unfold dag_High.f at h
  by_cases hlen : l0.length ≤ 35184372088832
  · rw [if_pos hlen] at h; obtain ⟨h0, hi, hf⟩ := Option.bind_eq_some_iff.mp h; have Hi := aM_ hi; have Hf := aM_ hf; clear h hi hf; refine callsIn_wide.1 (callsIn_of_wp_marks (n := 5) Tryz.func64 rfl trivial ?_ rfl); refine wpIn_wide.2 ?_; simp only [Tryz.ntmps64, List.size_toArray, List.length_cons, List.length_nil, Nat.reduceAdd, Nat.reduceSub, Array.replicate_succ, Array.replicate_zero, List.push_toArray, List.append_toArray, List.nil_append, List.cons_append]; have HM := aM_ hlen; have HB := aM_ (Below.refl w.heap.size w)
    go_wp2_with (first | ((with_reducible refine gate_dst (N := 12) rfl ?_); refine Kd.R_make (Kd.int .i64) _ 3 rfl (N := 12) rfl 25 _ _ rfl (l0.length : Int) rfl rfl Tryz.underlying25 (.int .i64 0) 8 info3 rfl (by decide) (by omega) 0 (ok := fun k => w.heap.size ≤ k) (okp := fun k => w.heap.size ≤ k) rfl (fun _ hk => hk) (Nat.le_refl _) (Int.natCast_nonneg _) (by have := HM.out; omega) (Below.refl _ _) (Nat.le_refl _) ?_; intro v12 w5 ho6 hb hg_ hnew_; obtain ⟨g4, cap4, e4, hg4, hRow⟩ := Row.shape ho6 hnew_; subst e4; simp only [List.length_replicate, Int.toNat_natCast] at hRow ⊢; have HO := aM_ hRow; have HB1 := aM_ hb; have HN := aM_ hg4; clear ho6 hb hg_ hnew_ hg4 hRow) | ((with_reducible refine gate_dst (N := 5) rfl ?_); refine bX_ (N := 5) (cs := #[.slice none 0 0]) (t := 25) ?_; intro g5 hg w6 hbox hb; have hcb := (bC_ hbox 0).trans rfl; have hfb := bZ_ hbox 0; have BX := aM_ hbox; have HG := aM_ hg; have HB2 := aM_ hb; clear hbox hg hb))
    obtain ⟨hl0, hlate⟩ := dag_High.init_at k l0 h0 Hi.out; have hlt4 : g4 < w5.heap.size := HO.out.lt; have hne45 : g4 ≠ g5 := by have := HG.out; omega
    go_loopw [15] (fun i wr => ∃ j : Nat, j ≤ l0.length ∧ i = .int .i64 j ∧ As_ (Row w.heap.size wr g4 cap4 l0.length (h0.take j ++ List.replicate (l0.length - j) 0)) ∧ As_ (wr.heap[g5]? = some (.cells #[.slice (some ⟨g4, 0, none⟩) l0.length cap4] 25 (0, 0))) ∧ As_ (Below w.heap.size w wr)) (fun i _ => l0.length - (intOf i).toNat)
    case atStart =>
      refine ⟨0, Nat.zero_le _, rfl, ⟨?_⟩, ⟨?_⟩, ⟨?_⟩⟩
      · simp only [List.take_zero, List.nil_append, Nat.sub_zero]; exact HO.out.step (by rw [Below.heap_setCell _ _ _ _ hne45]; exact HB2.out.block g4 hlt4)
      · exact blk_put BX.out 0 _ rfl
      · exact (HB1.out.trans (HB2.out.mono HB1.out.size)).setCell (p := ⟨g5, 0, none⟩) (by show w.heap.size ≤ g5; have := HG.out; have := HB1.out.size; omega) _
    case round =>
      clear hcb hfb HO BX; obtain ⟨j, hj, rfl, HO, BX, HB⟩ := hrel
      by_cases hlt : j < l0.length
      · have hla := aM_ (hlate j hlt); clear hlate; obtain ⟨ad, e1, hx0, hx1, hx2, hx3, hx4, hx5⟩ := at_T24 hr0 (j : Int) (Int.natCast_nonneg _) (by omega); subst e1; rw [Int.toNat_natCast] at hx0 hx1 hx2 hx3 hx4 hx5; replace hx0 := hC_ HB hx0; replace hx1 := hC_ HB hx1; replace hx2 := hC_ HB hx2; replace hx3 := hC_ HB hx3; replace hx4 := hC_ HB hx4; replace hx5 := hC_ HB hx5; have p1 : ((0 : Int) ≤ (j : Int)) = True := eq_true (Int.natCast_nonneg _); have q1 : ((j : Int) < (l0.length : Int)) = True := eq_true (by omega); have q2 : (j < l0.length) = True := eq_true hlt; have bx : (wr.alloc (.cells #[.int .i64 0, .int .i64 0, .int .i64 0, .int .i64 0, .int .i64 0, .string (⟨#[]⟩ : ByteArray)] 24)).heap[wr.heap.size]? = some (.cells #[.int .i64 0, .int .i64 0, .int .i64 0, .int .i64 0, .int .i64 0, .string (⟨#[]⟩ : ByteArray)] 24 (0, 0)) := blk_new wr _; have z0 := (bC_ bx 0).trans rfl; have z1 := (bC_ bx 1).trans rfl; have z2 := (bC_ bx 2).trans rfl; have z3 := (bC_ bx 3).trans rfl; have z4 := (bC_ bx 4).trans rfl; have z5 := (bC_ bx 5).trans rfl; have y0 := bZ_ bx 0; have y1 := bZ_ bx 1; have y2 := bZ_ bx 2; have y3 := bZ_ bx 3; have y4 := bZ_ bx 4; have y5 := bZ_ bx 5; clear bx; have n5 : g5 ≠ wr.heap.size := by have := blk_lt BX.out; omega
        have n5' : wr.heap.size ≠ g5 := fun e => n5 e.symm; have n4 : g4 ≠ wr.heap.size := by have := HO.out.lt; omega
        have n4' : wr.heap.size ≠ g4 := fun e => n4 e.symm; go_wp2; have bx := blk_new wr (.cells #[.int .i64 (J24 l0 (j : Int)).f0, .int .i64 (J24 l0 (j : Int)).f1, .int .i64 (J24 l0 (j : Int)).f2, .int .i64 (J24 l0 (j : Int)).f3, .int .i64 (J24 l0 (j : Int)).f4, .string (J24 l0 (j : Int)).f5] 24 (0, 0)); have HO7 := aM_ (HO.out.step (Below.heap_alloc wr (.cells #[.int .i64 (J24 l0 (j : Int)).f0, .int .i64 (J24 l0 (j : Int)).f1, .int .i64 (J24 l0 (j : Int)).f2, .int .i64 (J24 l0 (j : Int)).f3, .int .i64 (J24 l0 (j : Int)).f4, .string (J24 l0 (j : Int)).f5] 24 (0, 0)) g4 HO.out.lt)); have BX7 := aM_ (kA_ BX.out (.cells #[.int .i64 (J24 l0 (j : Int)).f0, .int .i64 (J24 l0 (j : Int)).f1, .int .i64 (J24 l0 (j : Int)).f2, .int .i64 (J24 l0 (j : Int)).f3, .int .i64 (J24 l0 (j : Int)).f4, .string (J24 l0 (j : Int)).f5] 24 (0, 0))); have HB7 := aM_ (HB.out.alloc HB.out.size (.cells #[.int .i64 (J24 l0 (j : Int)).f0, .int .i64 (J24 l0 (j : Int)).f1, .int .i64 (J24 l0 (j : Int)).f2, .int .i64 (J24 l0 (j : Int)).f3, .int .i64 (J24 l0 (j : Int)).f4, .string (J24 l0 (j : Int)).f5] 24 (0, 0))); generalize hW7 : wr.alloc (.cells #[.int .i64 (J24 l0 (j : Int)).f0, .int .i64 (J24 l0 (j : Int)).f1, .int .i64 (J24 l0 (j : Int)).f2, .int .i64 (J24 l0 (j : Int)).f3, .int .i64 (J24 l0 (j : Int)).f4, .string (J24 l0 (j : Int)).f5] 24 (0, 0)) = W7 at bx HO7 BX7 HB7 ⊢; clear hW7 z0 z1 z2 z3 z4 z5 y0 y1 y2 y3 y4 y5 hx0 hx1 hx2 hx3 hx4 hx5; have x0 := (bC_ bx 0).trans rfl; have b5 := (bC_ BX7.out 0).trans rfl; have hR := HO7.out.cell (j : Int) (Int.natCast_nonneg _) (by omega); rw [Int.toNat_natCast] at hR; obtain ⟨b4, b4'⟩ := hR; clear bx; refine wp_normal_only ?_; unfold OnlyNormal
        go_region_with (go_at_call 95; (with_reducible refine (isa_Late.calls k (J24 l0 (j : Int)).f0 (rd h0 (j : Int)) _ hla.out).mono ?_); rintro e w' ⟨rfl, ⟨nd, rfl⟩⟩)
        all_goals (try dsimp only)
        all_goals go_wp2
        all_goals go_roundw
        all_goals first
          | (refine ⟨j + 1, by omega, by simp, ⟨?_⟩, ⟨?_⟩, ⟨?_⟩⟩
             · rw [← dag_High.set_at h0 l0.length j hl0 hlt]; exact Row.putN (HO7.out.step rfl) j _
             · rw [Below.heap_setCell _ _ _ _ hne45.symm]; exact BX7.out
             · refine Below.setCell (p := ⟨g4, j, none⟩) ?_ HN.out _
               repeat (first | exact HB7.out | apply bN_ | apply b1_))
          | (simp [intOf]; omega)
      · obtain rfl : j = l0.length := by omega
        have p1 : ((l0.length : Int) < (l0.length : Int)) = False := eq_false (by omega); simp only [Nat.sub_self, List.replicate_zero, List.append_nil, List.take_of_length_le (Nat.le_of_eq hl0)] at HO
        go_wp2_with (go_at_call 99; refine (callsIn_wide.1 (back_in Fence.wide 1 trivial rfl _ _ _ _)).mono ?_; rintro e w' ⟨rfl, rfl⟩)
        have hbe := blk_new wr (.cells #[.slice A1 l1.length c1] 88 (0, 0)); have HO7 := aM_ (HO.out.step (Below.heap_alloc wr (.cells #[.slice A1 l1.length c1] 88 (0, 0)) g4 HO.out.lt)); have BX7 := aM_ (kA_ BX.out (.cells #[.slice A1 l1.length c1] 88 (0, 0))); have HB7 := aM_ (HB.out.alloc HB.out.size (.cells #[.slice A1 l1.length c1] 88 (0, 0))); have hlt5 := blk_lt BX.out; have hsz : (wr.alloc (.cells #[.slice A1 l1.length c1] 88 (0, 0))).heap.size = wr.heap.size + 1 := by simp
        have hwr := HB.out.size; obtain ⟨Be, hBe⟩ : ∃ Be, Be = wr.heap.size := ⟨_, rfl⟩
        rw [← hBe] at hbe hsz hlt5 ⊢; generalize hW7 : wr.alloc (.cells #[.slice A1 l1.length c1] 88 (0, 0)) = W7 at hbe HO7 BX7 HB7 hsz ⊢; have hrg := dag_High.range _ _ _ Hf.out
        refine wpIn_wide.1 (wpIn_rangeFunc_ownH (F := Fence.wide) (n := 5) rfl (by omega) (gf := 106) (lb := #[.pointer (some ⟨Be, 0, none⟩)]) rfl trivial (enters_of Tryz.func106 (by kernel_rfl) rfl)
          (back_stops Fence.wide (5 - 1) trivial rfl (by omega) Be A1 c1 l1 w W7 hr1 HB7.out hbe) (fun h k => KpB.t h k) (KpB.b HB7.out.size (by omega)) (Below.refl _ _) (fun _ => rfl)
          (fun pre W => (∃ hs, (pre.map (fun j : Fin l1.length => comes l1 j.1)).foldlM dag_High.step h0 = some hs ∧ Row w.heap.size W g4 cap4 l0.length hs) ∧ W.heap[g5]? = some (.cells #[.slice (some ⟨g4, 0, none⟩) l0.length cap4] 25 (0, 0)) ∧ W.heap[Be]? = some (.cells #[.slice A1 l1.length c1] 88 (0, 0)) ∧ Below w.heap.size w W)
          (fun _ _ _ => False)
          ?hI (fun _ _ _ _ _ hs _ _ => hs) ⟨⟨h0, rfl, HO7.out⟩, BX7.out, hbe, HB7.out⟩
          (fun x a' W => ∃ Bx, Be < Bx ∧ W.heap[Bx]? = some (.cells #[.int .i64 (comes l1 x.1).f0, .int .i64 (comes l1 x.1).f1, .int .i64 (comes l1 x.1).f2] 100 (0, 0)) ∧
            a' = { tmps := (Value.slice A0 l0.length c0 :: Value.slice A1 l1.length c1 :: undef :: undef :: Value.slice none 0 0 :: Value.pointer (some ⟨g5, 0, none⟩) :: u6 :: u7 :: undef :: Value.pointer (some ⟨Bx, 0, none⟩) :: Value.slice A0 l0.length c0 :: Value.int .i64 l0.length :: Value.slice (some ⟨g4, 0, none⟩) l0.length cap4 :: Value.slice A0 l0.length c0 :: Value.int .i64 l0.length :: Value.int .i64 l0.length :: Value.bool false :: u17 :: u18 :: u19 :: u20 :: u21 :: u22 :: u23 :: u24 :: u25 :: u26 :: Value.slice A1 l1.length c1 :: Value.func (.func 106) #[] #[.pointer (some ⟨Be, 0, none⟩)] :: Value.int .i64 ((l1.length : Int) - 1 - (x.1 : Int)) :: Value.agg #[.int .i64 (comes l1 x.1).f0, .int .i64 (comes l1 x.1).f1, .int .i64 (comes l1 x.1).f2] :: undef :: undef :: undef :: undef :: undef :: undef :: undef :: undef :: undef :: undef :: undef :: undef :: undef :: undef :: undef :: undef :: undef :: undef :: undef :: []).toArray, defers := [] })
          ?hAx ?assign ?body ?done ?stop)
        case hI =>
          rintro pre X Y row ⟨⟨hs, e1, hR⟩, h5, he, hB⟩ hg hr; obtain ⟨cs4, hc4⟩ := hR.cells; exact ⟨⟨hs, e1, hR.step (own_blk hc4 hg hr)⟩, (own_blk h5 hg hr).trans h5, (own_blk he hg hr).trans he, hB.grown hg hB.size (fun k e => by have := (hr k e).1; omega)⟩
        case hAx =>
          rintro x a' _ X Y row ⟨Bx, h1, h2, h3⟩ hg hr; exact ⟨Bx, h1, (own_blk h2 hg hr).trans h2, h3⟩
        case assign =>
          rintro l pre x W K ⟨⟨hs, e1, hR⟩, h5, he, hB⟩ hK; have bx : (W.alloc (.cells #[.int .i64 0, .int .i64 0, .int .i64 0] 100)).heap[W.heap.size]? = some (.cells #[.int .i64 0, .int .i64 0, .int .i64 0] 100 (0, 0)) := blk_new W _; have z0 := (bC_ bx 0).trans rfl; have z1 := (bC_ bx 1).trans rfl; have z2 := (bC_ bx 2).trans rfl; have y0 := bZ_ bx 0; have y1 := bZ_ bx 1; have y2 := bZ_ bx 2; clear bx
          gi_wp2
          exact hK _ _ ((KeepsOthers.alloc _ _).from _) ⟨(Below.refl _ W).alloc hB.size _, Below.heap_alloc W _ Be (blk_lt he)⟩ ⟨⟨hs, e1, hR.step (Below.heap_alloc W _ g4 hR.lt)⟩, kA_ h5 _, kA_ he _, hB.alloc hB.size _⟩ ⟨W.heap.size, blk_lt he, blk_new W _, by subst hBe; rfl⟩
        case body =>
          rintro l pre x a' W hl ⟨r', hr'⟩ ⟨⟨hs, e1, hR⟩, h5, he, hB⟩ ⟨Bx, hBx, hbx, rfl⟩ hlen'; obtain ⟨r0, r1, r2, r3⟩ := hrg (comes l1 x.1) (comes_mem l1 x.1 x.2); rw [hl0] at r1 r3; have x0 := (bC_ hbx 0).trans rfl; have x1 := (bC_ hbx 1).trans rfl; have x2 := (bC_ hbx 2).trans rfl; have b5 := (bC_ h5 0).trans rfl; obtain ⟨c0', c0f⟩ := hR.cell (comes l1 x.1).f0 r0 r1; obtain ⟨c1', c1f⟩ := hR.cell (comes l1 x.1).f1 r2 r3; have hput := aM_ (hR.put (comes l1 x.1).f0 (max (rd hs (comes l1 x.1).f0) (wrap64 ((comes l1 x.1).f2 + rd hs (comes l1 x.1).f1)))); have hne : g4 ≠ Be := by have := hR.lt; have := blk_lt he; have := HO.out.lt; omega
          clear hr' hl; replace r0 := eq_true r0; replace r1 := eq_true r1; replace r2 := eq_true r2; replace r3 := eq_true r3; have hR' := aM_ hR; have h5' := aM_ h5; have he' := aM_ he; have hB' := aM_ hB; clear hR h5 he hB hbx
          gi_wp2
          refine startIn_ (n := 19) (S := fun w' => w'.cell? ⟨g5, 0, none⟩ = some (.slice (some ⟨g4, 0, none⟩) l0.length cap4) ∧ w'.cell? ⟨Bx, 0, none⟩ = some (.int .i64 (comes l1 x.1).f0) ∧ w'.cell? ⟨Bx, 1, none⟩ = some (.int .i64 (comes l1 x.1).f1) ∧ w'.cell? ⟨Bx, 2, none⟩ = some (.int .i64 (comes l1 x.1).f2) ∧ w'.cell? ⟨g4, (comes l1 x.1).f0.toNat, none⟩ = some (.int .i64 (rd hs (comes l1 x.1).f0)) ∧ w'.cell? ⟨g4, (comes l1 x.1).f1.toNat, none⟩ = some (.int .i64 (rd hs (comes l1 x.1).f1))) (ds := [18]) #[false, false, false, false, false, false, false, false, false, false, false, false, false, false, false, false, false, false, false] (by kernel_rfl) (by kernel_rfl) rfl rfl ⟨b5, x0, x1, x2, c0', c1'⟩ (fun hHeld => ?_); have f0' : W.drew.frozen? ⟨g4, (comes l1 x.1).f0.toNat, none⟩ = false := c0f; have hput' : As_ (Row w.heap.size (W.drew.setCell ⟨g4, (comes l1 x.1).f0.toNat, none⟩ (.int .i64 (max (rd hs (comes l1 x.1).f0) (wrap64 ((comes l1 x.1).f2 + rd hs (comes l1 x.1).f1))))) g4 cap4 l0.length _) := ⟨hput.out.step rfl⟩
          have hd0 : ∀ b : Nat, W.drew.heap[b]? = W.heap[b]? := fun _ => rfl; have hlow := aM_ (below_drew (Below.refl w.heap.size W)); have hkf := aM_ ((KeepsOthers.drew W).from W7.heap.size); have hc0 := c0'; clear c0f c1f hput; replace c0' : W.drew.cell? ⟨g4, (comes l1 x.1).f0.toNat, none⟩ = _ := hc0; clear hc0 x0 x1 x2 b5 c1'; generalize W.drew = w2 at c0' f0' hput' hd0 hlow hkf hHeld ⊢; refine take_ (i := 0) (N := (some 31)) (v := ?_) (a' := ?_) #[true, false, false, false, false, false, false, false, false, false, false, false, false, false, false, false, false, false, false] rfl rfl (by kernel_rfl) (fun _ _ _ h => h) (Or.inl ⟨by rfl, ?_⟩) hHeld ?_ ?_; rotate_left
          · rintro w' ⟨s0, s1, s2, s3, s4, s5⟩
            go_simp
            with_reducible rfl
          rotate_left
          · simp only [Act.put, List.setIfInBounds_toArray, List.set_cons_zero, List.set_cons_succ, i64_w, i32_w]; rfl
          refine pure_ (i := 1) (N := (some 32)) (v := ?_) (a' := ?_) #[true, true, false, false, false, false, false, false, false, false, false, false, false, false, false, false, false, false, false] rfl rfl (by kernel_rfl) (fun _ _ _ h => h) (Or.inl ⟨by rfl, ?_⟩) ?_ ?_; rotate_left
          · intro w'
            go_simp
            with_reducible rfl
          rotate_left
          · simp only [Act.put, List.setIfInBounds_toArray, List.set_cons_zero, List.set_cons_succ, i64_w, i32_w]; rfl
          refine take_ (i := 2) (N := (some 33)) (v := ?_) (a' := ?_) #[true, true, true, false, false, false, false, false, false, false, false, false, false, false, false, false, false, false, false] rfl rfl (by kernel_rfl) (fun _ _ _ h => h) (Or.inl ⟨by rfl, ?_⟩) hHeld ?_ ?_; rotate_left
          · rintro w' ⟨s0, s1, s2, s3, s4, s5⟩
            go_simp
            with_reducible rfl
          rotate_left
          · simp only [Act.put, List.setIfInBounds_toArray, List.set_cons_zero, List.set_cons_succ, i64_w, i32_w]; rfl
          refine take_ (i := 3) (N := (some 34)) (v := ?_) (a' := ?_) #[true, true, true, true, false, false, false, false, false, false, false, false, false, false, false, false, false, false, false] rfl rfl (by kernel_rfl) (fun _ _ _ h => h) (Or.inl ⟨by rfl, ?_⟩) hHeld ?_ ?_; rotate_left
          · rintro w' ⟨s0, s1, s2, s3, s4, s5⟩
            go_simp
            with_reducible rfl
          rotate_left
          · simp only [Act.put, List.setIfInBounds_toArray, List.set_cons_zero, List.set_cons_succ, i64_w, i32_w]; rfl
          refine pure_ (i := 4) (N := (some 35)) (v := ?_) (a' := ?_) #[true, true, true, true, true, false, false, false, false, false, false, false, false, false, false, false, false, false, false] rfl rfl (by kernel_rfl) (fun _ _ _ h => h) (Or.inl ⟨by rfl, ?_⟩) ?_ ?_; rotate_left
          · intro w'
            go_simp
            with_reducible rfl
          rotate_left
          · simp only [Act.put, List.setIfInBounds_toArray, List.set_cons_zero, List.set_cons_succ, i64_w, i32_w]; rfl
          refine take_ (i := 5) (N := (some 36)) (v := ?_) (a' := ?_) #[true, true, true, true, true, true, false, false, false, false, false, false, false, false, false, false, false, false, false] rfl rfl (by kernel_rfl) (fun _ _ _ h => h) (Or.inl ⟨by rfl, ?_⟩) hHeld ?_ ?_; rotate_left
          · rintro w' ⟨s0, s1, s2, s3, s4, s5⟩
            go_simp
            with_reducible rfl
          rotate_left
          · simp only [Act.put, List.setIfInBounds_toArray, List.set_cons_zero, List.set_cons_succ, i64_w, i32_w]; rfl
          refine pure_ (i := 6) (N := (some 37)) (v := ?_) (a' := ?_) #[true, true, true, true, true, true, true, false, false, false, false, false, false, false, false, false, false, false, false] rfl rfl (by kernel_rfl) (fun _ _ _ h => h) (Or.inl ⟨by rfl, ?_⟩) ?_ ?_; rotate_left
          · intro w'
            go_simp
            with_reducible rfl
          rotate_left
          · simp only [Act.put, List.setIfInBounds_toArray, List.set_cons_zero, List.set_cons_succ, i64_w, i32_w]; rfl
          refine take_ (i := 7) (N := (some 38)) (v := ?_) (a' := ?_) #[true, true, true, true, true, true, true, true, false, false, false, false, false, false, false, false, false, false, false] rfl rfl (by kernel_rfl) (fun _ _ _ h => h) (Or.inl ⟨by rfl, ?_⟩) hHeld ?_ ?_; rotate_left
          · rintro w' ⟨s0, s1, s2, s3, s4, s5⟩
            go_simp
            with_reducible rfl
          rotate_left
          · simp only [Act.put, List.setIfInBounds_toArray, List.set_cons_zero, List.set_cons_succ, i64_w, i32_w]; rfl
          refine pure_ (i := 8) (N := (some 39)) (v := ?_) (a' := ?_) #[true, true, true, true, true, true, true, true, true, false, false, false, false, false, false, false, false, false, false] rfl rfl (by kernel_rfl) (fun _ _ _ h => h) (Or.inl ⟨by rfl, ?_⟩) ?_ ?_; rotate_left
          · intro w'
            go_simp
            with_reducible rfl
          rotate_left
          · simp only [Act.put, List.setIfInBounds_toArray, List.set_cons_zero, List.set_cons_succ, i64_w, i32_w]; rfl
          refine take_ (i := 9) (N := (some 40)) (v := ?_) (a' := ?_) #[true, true, true, true, true, true, true, true, true, true, false, false, false, false, false, false, false, false, false] rfl rfl (by kernel_rfl) (fun _ _ _ h => h) (Or.inl ⟨by rfl, ?_⟩) hHeld ?_ ?_; rotate_left
          · rintro w' ⟨s0, s1, s2, s3, s4, s5⟩
            go_simp
            with_reducible rfl
          rotate_left
          · simp only [Act.put, List.setIfInBounds_toArray, List.set_cons_zero, List.set_cons_succ, i64_w, i32_w]; rfl
          refine take_ (i := 10) (N := (some 41)) (v := ?_) (a' := ?_) #[true, true, true, true, true, true, true, true, true, true, true, false, false, false, false, false, false, false, false] rfl rfl (by kernel_rfl) (fun _ _ _ h => h) (Or.inl ⟨by rfl, ?_⟩) hHeld ?_ ?_; rotate_left
          · rintro w' ⟨s0, s1, s2, s3, s4, s5⟩
            go_simp
            with_reducible rfl
          rotate_left
          · simp only [Act.put, List.setIfInBounds_toArray, List.set_cons_zero, List.set_cons_succ, i64_w, i32_w]; rfl
          refine pure_ (i := 11) (N := (some 42)) (v := ?_) (a' := ?_) #[true, true, true, true, true, true, true, true, true, true, true, true, false, false, false, false, false, false, false] rfl rfl (by kernel_rfl) (fun _ _ _ h => h) (Or.inl ⟨by rfl, ?_⟩) ?_ ?_; rotate_left
          · intro w'
            go_simp
            with_reducible rfl
          rotate_left
          · simp only [Act.put, List.setIfInBounds_toArray, List.set_cons_zero, List.set_cons_succ, i64_w, i32_w]; rfl
          refine take_ (i := 12) (N := (some 43)) (v := ?_) (a' := ?_) #[true, true, true, true, true, true, true, true, true, true, true, true, true, false, false, false, false, false, false] rfl rfl (by kernel_rfl) (fun _ _ _ h => h) (Or.inl ⟨by rfl, ?_⟩) hHeld ?_ ?_; rotate_left
          · rintro w' ⟨s0, s1, s2, s3, s4, s5⟩
            go_simp
            with_reducible rfl
          rotate_left
          · simp only [Act.put, List.setIfInBounds_toArray, List.set_cons_zero, List.set_cons_succ, i64_w, i32_w]; rfl
          refine pure_ (i := 13) (N := (some 44)) (v := ?_) (a' := ?_) #[true, true, true, true, true, true, true, true, true, true, true, true, true, true, false, false, false, false, false] rfl rfl (by kernel_rfl) (fun _ _ _ h => h) (Or.inl ⟨by rfl, ?_⟩) ?_ ?_; rotate_left
          · intro w'
            go_simp
            with_reducible rfl
          rotate_left
          · simp only [Act.put, List.setIfInBounds_toArray, List.set_cons_zero, List.set_cons_succ, i64_w, i32_w]; rfl
          refine take_ (i := 14) (N := (some 45)) (v := ?_) (a' := ?_) #[true, true, true, true, true, true, true, true, true, true, true, true, true, true, true, false, false, false, false] rfl rfl (by kernel_rfl) (fun _ _ _ h => h) (Or.inl ⟨by rfl, ?_⟩) hHeld ?_ ?_; rotate_left
          · rintro w' ⟨s0, s1, s2, s3, s4, s5⟩
            go_simp
            with_reducible rfl
          rotate_left
          · simp only [Act.put, List.setIfInBounds_toArray, List.set_cons_zero, List.set_cons_succ, i64_w, i32_w]; rfl
          refine pure_ (i := 15) (N := (some 46)) (v := ?_) (a' := ?_) #[true, true, true, true, true, true, true, true, true, true, true, true, true, true, true, true, false, false, false] rfl rfl (by kernel_rfl) (fun _ _ _ h => h) (Or.inl ⟨by rfl, ?_⟩) ?_ ?_; rotate_left
          · intro w'
            go_simp
            with_reducible rfl
          rotate_left
          · simp only [Act.put, List.setIfInBounds_toArray, List.set_cons_zero, List.set_cons_succ, i64_w, i32_w]; rfl
          refine pure_ (i := 16) (N := (some 47)) (v := ?_) (a' := ?_) #[true, true, true, true, true, true, true, true, true, true, true, true, true, true, true, true, true, false, false] rfl rfl (by kernel_rfl) (fun _ _ _ h => h) (Or.inl ⟨by rfl, ?_⟩) ?_ ?_; rotate_left
          · intro w'
            go_simp
            with_reducible rfl
          rotate_left
          · simp only [Act.put, List.setIfInBounds_toArray, List.set_cons_zero, List.set_cons_succ, i64_w, i32_w]; rfl
          refine pure_ (i := 17) (N := (some 48)) (v := ?_) (a' := ?_) #[true, true, true, true, true, true, true, true, true, true, true, true, true, true, true, true, true, true, false] rfl rfl (by kernel_rfl) (fun _ _ _ h => h) (Or.inl ⟨by rfl, ?_⟩) ?_ ?_; rotate_left
          · intro w'
            go_simp
            with_reducible rfl
          rotate_left
          · simp only [Act.put, List.setIfInBounds_toArray, List.set_cons_zero, List.set_cons_succ, i64_w, i32_w]; rfl
          refine last_ (i := 18) (N := none) #[true, true, true, true, true, true, true, true, true, true, true, true, true, true, true, true, true, true, true] rfl rfl (by kernel_rfl) (by decide) (fun K hK => ?_); refine skip_ (w1 := ?_) (by rfl) rfl ?_ ?_; rotate_left
          · go_simp
            rfl
          refine hK.out _ _ ?_; clear hK K; refine done_ (by kernel_rfl) ?_; rw [show (if rd hs (comes l1 x.1).f0 < wrap64 ((comes l1 x.1).f2 + rd hs (comes l1 x.1).f1) then wrap64 ((comes l1 x.1).f2 + rd hs (comes l1 x.1).f1) else rd hs (comes l1 x.1).f0) = max (rd hs (comes l1 x.1).f0) (wrap64 ((comes l1 x.1).f2 + rd hs (comes l1 x.1).f1)) by rw [Int.max_def]; split <;> split <;> omega]; refine (show KeepsFrom W7.heap.size W _ ∧ KpB w.heap.size Be W _ ∧ _ from ⟨hkf.out.trans ((KeepsOthers.setCell _ _ _).from _), ⟨hlow.out.setCell (p := ⟨g4, _, none⟩) HN.out _, ?_⟩, ⟨_, ?_, hput'.out⟩, ?_, ?_, ?_⟩)
          · rw [Below.heap_setCell _ _ _ _ hne.symm, hd0]
          · rw [List.map_append, List.foldlM_append, e1]; show (([x].map fun j : Fin l1.length => comes l1 j.1).foldlM dag_High.step hs) = _; simp only [List.map_cons, List.map_nil, List.foldlM_cons, List.foldlM_nil]; unfold dag_High.step; rw [if_pos ⟨of_eq_true r0, by rw [hR'.out.1]; exact of_eq_true r1, of_eq_true r2, by rw [hR'.out.1]; exact of_eq_true r3⟩]; rfl
          · rw [Below.heap_setCell _ _ _ _ hne45.symm, hd0]; exact h5'.out
          · rw [Below.heap_setCell _ _ _ _ hne.symm, hd0]; exact he'.out
          · exact (hB'.out.trans hlow.out).setCell (p := ⟨g4, _, none⟩) HN.out _
        case done =>
          rintro D xs W hD rfl ⟨⟨hs, e1, hR⟩, h5, he, hB⟩ hK; rw [upto_all, Hf.out] at e1; obtain rfl := Option.some.inj e1; have b5 := (bC_ h5 0).trans rfl; go_wp2; refine ⟨by simp, .inl ⟨_, _, rfl, run_takeDeferred hK, ?_⟩⟩
          have hne4 : D ≠ g4 := fun e => by
            obtain ⟨cs4, hc4⟩ := hR.cells; rw [← e, hK] at hc4
            cases hc4
          exact ⟨_, results_tmp rfl _ _ _, _, rfl, Kd.R_mono (Row.step (W1 := W.putObj D (.deferred none)) hR (World.putObj_heap_other (Ne.symm hne4))).2 (fun _ _ => trivial), hB.trans (belowK_b (w := w) (Nat.le_refl _) W D _ _ (by have := HB7.out.size; omega) hK rfl rfl)⟩
        case stop =>
          rintro D c pre W _ _ h _; exact h.elim
  · rw [if_neg hlen] at h; exact absurd h (by simp)
end
section
attribute [local go_sem] max2_int min2_int max_two min_two max_three min_three max_four min_four
end
end Go.Proofs.YtibfkkjkahpobaaGreat.PDag
