import Derived.Test.YtibfkkjkahpobaaMx15
import Derived.Test.YtibfkkjkahpobaaMx21
import Derived.Test.YtibfkkjkahpobaaMx16
set_option linter.unusedVariables false
set_option linter.unusedSimpArgs false
set_option maxHeartbeats 8000000
set_option maxRecDepth 100000
namespace Go.Proofs.Ytibfkkjkahpobaa.PDag
open Go.RowKit Go.Proofs.YtibfkkjkahpobaaW.PrintWords Go.Proofs.YtibfkkjkahpobaaW.PrintLast Go.Proofs.YtibfkkjkahpobaaW.PrintMore
attribute [local go_sem] max2_int min2_int max_two min_two max_three min_three max_four min_four
mutual
def r13_dist.j0 : Nat → Int → Int → Int → Bool → Int → Int → Int → Int → Int → ByteArray → Int → Int → Int → Int → Int → ByteArray → Option (Int)
  | 0, _, _, _, _, _, _, _, _, _, _, _, _, _, _, _, _ => none
  | k + 1, x5, x6, x7, x20, x217a, x217b, x217c, x217d, x217e, x217f, x218a, x218b, x218c, x218d, x218e, x218f => if x20 = true then (r13_dist.j1 k 0 x6 x7 x217a x217b x217c x217d x217e x217f x218a x218b x218c x218d x218e x218f) else (r13_dist.j1 k x5 x6 x7 x217a x217b x217c x217d x217e x217f x218a x218b x218c x218d x218e x218f)
def r13_dist.j1 : Nat → Int → Int → Int → Int → Int → Int → Int → Int → ByteArray → Int → Int → Int → Int → Int → ByteArray → Option (Int)
  | 0, _, _, _, _, _, _, _, _, _, _, _, _, _, _, _ => none
  | k + 1, x5, x6, x7, x217a, x217b, x217c, x217d, x217e, x217f, x218a, x218b, x218c, x218d, x218e, x218f => (r3_Effect.f x217a).bind fun t224 => (if t224 = true then ((r3_Effect.f x218a).bind fun t225 => (r13_dist.j2 k x5 x6 x7 t225 x217a x217b x217c x217d x217e x217f x218a x218b x218c x218d x218e x218f)) else (r13_dist.j2 k x5 x6 x7 false x217a x217b x217c x217d x217e x217f x218a x218b x218c x218d x218e x218f))
def r13_dist.j2 : Nat → Int → Int → Int → Bool → Int → Int → Int → Int → Int → ByteArray → Int → Int → Int → Int → Int → ByteArray → Option (Int)
  | 0, _, _, _, _, _, _, _, _, _, _, _, _, _, _, _, _ => none
  | k + 1, x5, x6, x7, x28, x217a, x217b, x217c, x217d, x217e, x217f, x218a, x218b, x218c, x218d, x218e, x218f => if x28 = true then (r13_dist.j3 k 1 x6 x7 x217a x217b x217c x217d x217e x217f x218a x218b x218c x218d x218e x218f) else (r13_dist.j3 k x5 x6 x7 x217a x217b x217c x217d x217e x217f x218a x218b x218c x218d x218e x218f)
def r13_dist.j3 : Nat → Int → Int → Int → Int → Int → Int → Int → Int → ByteArray → Int → Int → Int → Int → Int → ByteArray → Option (Int)
  | 0, _, _, _, _, _, _, _, _, _, _, _, _, _, _, _ => none
  | k + 1, x5, x6, x7, x217a, x217b, x217c, x217d, x217e, x217f, x218a, x218b, x218c, x218d, x218e, x218f => if x6 ≥ 0 then (if x6 = x7 then (r13_dist.j4 k x5 true x217a x217b x217c x217d x217e x217f) else ((r3_Reads.f k x218a x218b x218c x218d x218e x218f).bind fun t226 => ((r0_In.f k t226 x6).bind fun t229 => (r13_dist.j4 k x5 (decide (t229 ≥ 0)) x217a x217b x217c x217d x217e x217f)))) else (r13_dist.j4 k x5 false x217a x217b x217c x217d x217e x217f)
def r13_dist.j4 : Nat → Int → Bool → Int → Int → Int → Int → Int → ByteArray → Option (Int)
  | 0, _, _, _, _, _, _, _, _ => none
  | k + 1, x5, x42, x217a, x217b, x217c, x217d, x217e, x217f => if x42 = true then ((r3_Latency.f k x217a).bind fun t230 => (some (mx x5 t230))) else (some x5)
end
def r13_dist.f (k : Nat) (a0_0 : Int) (a0_1 : Int) (a0_2 : Int) (a0_3 : Int) (a0_4 : Int) (a0_5 : ByteArray) (a1_0 : Int) (a1_1 : Int) (a1_2 : Int) (a1_3 : Int) (a1_4 : Int) (a1_5 : ByteArray) : Option (Int) := (r3_Writes.f a0_0 a0_1 a0_2 a0_3 a0_4 a0_5).bind fun t218 => ((r3_Writes.f a1_0 a1_1 a1_2 a1_3 a1_4 a1_5).bind fun t219 => (if t219 ≥ 0 then ((r3_Reads.f k a0_0 a0_1 a0_2 a0_3 a0_4 a0_5).bind fun t220 => ((r0_In.f k t220 t219).bind fun t223 => (r13_dist.j0 k (-1) t218 t219 (decide (t223 ≥ 0)) a0_0 a0_1 a0_2 a0_3 a0_4 a0_5 a1_0 a1_1 a1_2 a1_3 a1_4 a1_5))) else (r13_dist.j0 k (-1) t218 t219 false a0_0 a0_1 a0_2 a0_3 a0_4 a0_5 a1_0 a1_1 a1_2 a1_3 a1_4 a1_5)))
theorem r13_dist.calls (k : Nat) (a0_0 : Int) (a0_1 : Int) (a0_2 : Int) (a0_3 : Int) (a0_4 : Int) (a0_5 : ByteArray) (a1_0 : Int) (a1_1 : Int) (a1_2 : Int) (a1_3 : Int) (a1_4 : Int) (a1_5 : ByteArray) (r : Int) (w : World) (h : r13_dist.f k a0_0 a0_1 a0_2 a0_3 a0_4 a0_5 a1_0 a1_1 a1_2 a1_3 a1_4 a1_5 = some r) :
    Calls Try.prog 58 #[.agg #[.int .i64 a0_0, .int .i64 a0_1, .int .i64 a0_2, .int .i64 a0_3, .int .i64 a0_4, .string a0_5], .agg #[.int .i64 a1_0, .int .i64 a1_1, .int .i64 a1_2, .int .i64 a1_3, .int .i64 a1_4, .string a1_5]] w fun e w' => e = .returned (.int .i64 r) ∧ Below w.heap.size w w' := by
 have hu24 := Try.underlying24
 have HB := aM_ (Below.refl w.heap.size w)
 have H : ((r3_Writes.f a0_0 a0_1 a0_2 a0_3 a0_4 a0_5).bind fun t218 => ((r3_Writes.f a1_0 a1_1 a1_2 a1_3 a1_4 a1_5).bind fun t219 => (if t219 ≥ 0 then ((r3_Reads.f k a0_0 a0_1 a0_2 a0_3 a0_4 a0_5).bind fun t220 => ((r0_In.f k t220 t219).bind fun t223 => (r13_dist.j0 k (-1) t218 t219 (decide (t223 ≥ 0)) a0_0 a0_1 a0_2 a0_3 a0_4 a0_5 a1_0 a1_1 a1_2 a1_3 a1_4 a1_5))) else (r13_dist.j0 k (-1) t218 t219 false a0_0 a0_1 a0_2 a0_3 a0_4 a0_5 a1_0 a1_1 a1_2 a1_3 a1_4 a1_5)))) = some r := h
 clear h
 replace H := oB_ H
 obtain ⟨t218, A3, H⟩ := H
 replace H := oB_ H
 obtain ⟨t219, A4, H⟩ := H
 have HC5 := aM_ H
 clear H
 go_enter Try.func58, Try.ntmps58
 try go_wp2_with (first | ((with_reducible refine gate_dst (N := 2) rfl ?_); refine bX_ (N := 2) (cs := #[.int .i64 a0_0, .int .i64 a0_1, .int .i64 a0_2, .int .i64 a0_3, .int .i64 a0_4, .string a0_5]) (t := 24) ?_; intro gb216 hg w6 hbox hb; replace BK216 := aM_ (hbox); replace GW216 := aM_ (gE_ hg (bl_ HB)); replace GE216 := aM_ (gE_ hg (bl_ HB)); replace HB := aM_ (bT_ (bl_ HB) hb); clear hb hbox hg) | ((with_reducible refine gate_dst (N := 3) rfl ?_); refine bX_ (N := 3) (cs := #[.int .i64 a1_0, .int .i64 a1_1, .int .i64 a1_2, .int .i64 a1_3, .int .i64 a1_4, .string a1_5]) (t := 24) ?_; intro gb217 hg w7 hbox hb; replace BK217 := aM_ (hbox); replace GW217 := aM_ (gE_ hg (bs_ HB GE216)); replace GE217 := aM_ (gE_ hg (bs_ HB GE216)); replace HB := aM_ (bT_ (bs_ HB GE216) hb); replace NB216_217 := aM_ ((by rw [hg]; exact Nat.ne_of_lt (blk_lt (g := gb216) (o := .cells #[.int .i64 a0_0, .int .i64 a0_1, .int .i64 a0_2, .int .i64 a0_3, .int .i64 a0_4, .string a0_5] 24 (0, 0)) (rB_ BK216)) : gb216 ≠ gb217)); replace NB217_216 := aM_ ((by rw [hg]; exact Nat.ne_of_gt (blk_lt (g := gb216) (o := .cells #[.int .i64 a0_0, .int .i64 a0_1, .int .i64 a0_2, .int .i64 a0_3, .int .i64 a0_4, .string a0_5] 24 (0, 0)) (rB_ BK216)) : gb217 ≠ gb216)); replace BK216 := aM_ (kB_ (rB_ BK216) hb); clear hb hbox hg))
 replace BK216 := aM_ (kD_ BK216.out)
 replace BK217 := aM_ (kD_ BK217.out)
 replace HB := aM_ (b1_ HB.out)
 refine start_ (n := 6) (S := fun w' => w'.cell? ⟨gb216, 0, none⟩ = some (.int .i64 a0_0) ∧ w'.cell? ⟨gb216, 1, none⟩ = some (.int .i64 a0_1) ∧ w'.cell? ⟨gb216, 2, none⟩ = some (.int .i64 a0_2) ∧ w'.cell? ⟨gb216, 3, none⟩ = some (.int .i64 a0_3) ∧ w'.cell? ⟨gb216, 4, none⟩ = some (.int .i64 a0_4) ∧ w'.cell? ⟨gb216, 5, none⟩ = some (.string a0_5) ∧ w'.cell? ⟨gb217, 0, none⟩ = some (.int .i64 a1_0) ∧ w'.cell? ⟨gb217, 1, none⟩ = some (.int .i64 a1_1) ∧ w'.cell? ⟨gb217, 2, none⟩ = some (.int .i64 a1_2) ∧ w'.cell? ⟨gb217, 3, none⟩ = some (.int .i64 a1_3) ∧ w'.cell? ⟨gb217, 4, none⟩ = some (.int .i64 a1_4) ∧ w'.cell? ⟨gb217, 5, none⟩ = some (.string a1_5)) (ds := []) #[false, false, false, false, false, false] (by kernel_rfl) rfl (by kernel_rfl) ⟨(bC_ BK216.out 0).trans rfl, (bC_ BK216.out 1).trans rfl, (bC_ BK216.out 2).trans rfl, (bC_ BK216.out 3).trans rfl, (bC_ BK216.out 4).trans rfl, (bC_ BK216.out 5).trans rfl, (bC_ BK217.out 0).trans rfl, (bC_ BK217.out 1).trans rfl, (bC_ BK217.out 2).trans rfl, (bC_ BK217.out 3).trans rfl, (bC_ BK217.out 4).trans rfl, (bC_ BK217.out 5).trans rfl⟩ (fun hHeld => ?_)
 generalize w7.drew = w8 at BK216 BK217 HB hHeld ⊢
 refine seq_ (k := 4) [(0, some 8, true), (2, some 10, true)] #[true, false, true, false, false, false] rfl (by kernel_rfl) (fun _ _ _ _ _ h => h) hHeld ?_
 repeat (first | (refine SeqOn.take (v := ?_) (a' := ?_) rfl rfl (Or.inl ⟨by kernel_rfl, ?_⟩) ?_ ?_; rotate_left 2; (focus (rintro w' ⟨s0, s1, s2, s3, s4, s5, s6, s7, s8, s9, s10, s11⟩; go_simp; with_reducible rfl)); (focus exact pU_)))
 refine SeqOn.nil ?_
 refine one_ (i := 1) (N := some 9) #[true, true, true, false, false, false] rfl rfl (by kernel_rfl) (by decide) (fun K hK => ?_)
 refine gO_ Try.func71 #[.agg #[.int .i64 a0_0, .int .i64 a0_1, .int .i64 a0_2, .int .i64 a0_3, .int .i64 a0_4, .string a0_5]] rfl ?_
 with_reducible refine (r3_Writes.calls a0_0 a0_1 a0_2 a0_3 a0_4 a0_5 t218 _ A3.out).mono ?_
 rintro e w9 ⟨rfl, hb⟩
 refine ⟨_, rfl, ?_⟩
 replace BK216 := aM_ (kB_ (rB_ BK216) hb)
 replace BK217 := aM_ (kB_ (rB_ BK217) hb)
 replace HB := aM_ (bT_ (bt_ HB GE216 GE217) hb)
 refine hK.out _ _ ⟨(bC_ BK216.out 0).trans rfl, (bC_ BK216.out 1).trans rfl, (bC_ BK216.out 2).trans rfl, (bC_ BK216.out 3).trans rfl, (bC_ BK216.out 4).trans rfl, (bC_ BK216.out 5).trans rfl, (bC_ BK217.out 0).trans rfl, (bC_ BK217.out 1).trans rfl, (bC_ BK217.out 2).trans rfl, (bC_ BK217.out 3).trans rfl, (bC_ BK217.out 4).trans rfl, (bC_ BK217.out 5).trans rfl⟩ (fun hHeld => ?_)
 clear hK K
 refine norm_ (a' := ?_) ?_ ?_
 rotate_left
 ·show Act.put _ (some 9) _ = _
  simp only [Act.put, List.setIfInBounds_toArray, List.set_cons_zero, List.set_cons_succ, i64_w, i32_w]
  rfl
 refine one_ (i := 3) (N := some 11) #[true, true, true, true, false, false] rfl rfl (by kernel_rfl) (by decide) (fun K hK => ?_)
 refine gO_ Try.func71 #[.agg #[.int .i64 a1_0, .int .i64 a1_1, .int .i64 a1_2, .int .i64 a1_3, .int .i64 a1_4, .string a1_5]] rfl ?_
 with_reducible refine (r3_Writes.calls a1_0 a1_1 a1_2 a1_3 a1_4 a1_5 t219 _ A4.out).mono ?_
 rintro e w10 ⟨rfl, hb⟩
 refine ⟨_, rfl, ?_⟩
 replace BK216 := aM_ (kB_ (rB_ BK216) hb)
 replace BK217 := aM_ (kB_ (rB_ BK217) hb)
 replace HB := aM_ (bT_ (bt_ HB GE216 GE217) hb)
 refine hK.out _ _ ⟨(bC_ BK216.out 0).trans rfl, (bC_ BK216.out 1).trans rfl, (bC_ BK216.out 2).trans rfl, (bC_ BK216.out 3).trans rfl, (bC_ BK216.out 4).trans rfl, (bC_ BK216.out 5).trans rfl, (bC_ BK217.out 0).trans rfl, (bC_ BK217.out 1).trans rfl, (bC_ BK217.out 2).trans rfl, (bC_ BK217.out 3).trans rfl, (bC_ BK217.out 4).trans rfl, (bC_ BK217.out 5).trans rfl⟩ (fun hHeld => ?_)
 clear hK K
 refine norm_ (a' := ?_) ?_ ?_
 rotate_left
 ·show Act.put _ (some 11) _ = _
  simp only [Act.put, List.setIfInBounds_toArray, List.set_cons_zero, List.set_cons_succ, i64_w, i32_w]
  rfl
 refine seq_ (k := 0) [(4, some 6, false), (5, some 7, false)] #[true, true, true, true, true, true] rfl (by kernel_rfl) (fun _ _ _ _ _ h => h) hHeld ?_
 repeat (first | (refine SeqOn.pure (v := ?_) (a' := ?_) rfl rfl (Or.inl ⟨by kernel_rfl, ?_⟩) ?_ ?_; rotate_left 2; (focus (intro w'; go_simp; with_reducible rfl)); (focus exact pU_)))
 refine SeqOn.nil ?_
 refine done_ (by kernel_rfl) ?_
 go_upto_region 3 with (fail)
 go_cut [20] (fun v20 wc => ∃ (kq : Nat) (x20_4 : Bool), v20 = .bool x20_4 ∧ As_ (r13_dist.j0 kq (-1) t218 t219 x20_4 a0_0 a0_1 a0_2 a0_3 a0_4 a0_5 a1_0 a1_1 a1_2 a1_3 a1_4 a1_5 = some r) ∧ As_ (kq ≤ k) ∧ As_ (wc.heap[gb216]? = some (.cells #[.int .i64 a0_0, .int .i64 a0_1, .int .i64 a0_2, .int .i64 a0_3, .int .i64 a0_4, .string a0_5] 24 (0, 0))) ∧ As_ (wc.heap[gb217]? = some (.cells #[.int .i64 a1_0, .int .i64 a1_1, .int .i64 a1_2, .int .i64 a1_3, .int .i64 a1_4, .string a1_5] 24 (0, 0))) ∧ As_ (Below w.heap.size w wc))
 case first =>
  have H := HC5.out
  clear HC5
  by_cases c11 : t219 ≥ 0
  ·rw [if_pos c11] at H
   have c11b0 := dE_ c11
   clear c11
   (first | rw [c11b0] | (simp only [i64_w, i32_w]; rw [c11b0]) | skip)
   replace H := oB_ H
   obtain ⟨t220, A12, H⟩ := H
   replace H := oB_ H
   obtain ⟨t223, A13, H⟩ := H
   replace H := aM_ H
   have hnb14 := NB216_217.out
   have hnc14 := NB217_216.out
   obtain ⟨hcz15_0, hcz15_1, hcz15_2, hcz15_3, hcz15_4, hcz15_5⟩ := cl6_ BK216.out
   obtain ⟨hfz15_0, hfz15_1, hfz15_2, hfz15_3, hfz15_4, hfz15_5⟩ := fz6_ BK216.out
   go_wp2_with (first | (go_at_call 73; (with_reducible refine (r3_Reads.calls k a0_0 a0_1 a0_2 a0_3 a0_4 a0_5 t220 _ A12.out).mono ?_); rintro e w16 ⟨v221, rfl, ho0, hb⟩; replace HO222 := aM_ (Kd.R_lower ho0 (bY_ (bt_ HB GE216 GE217))); replace BK216 := aM_ (kB_ (rB_ BK216) hb); replace BK217 := aM_ (kB_ (rB_ BK217) hb); replace HB := aM_ (bT_ (bt_ HB GE216 GE217) hb); (try clear ho0); obtain ⟨Ao17, co17, eo17⟩ := Kd.R_slice HO222.out; subst eo17) | (go_at_call 72; (with_reducible refine (r0_In.calls k _ _ t220 t219 t223 _ ?side1 ?side2 A13.out).mono ?_); (case side1 => exact rC_ (Kd.R_reads' HO222.out).2.2); (case side2 => exact (Kd.R_reads' HO222.out).2.1); rintro e w' ⟨rfl, ⟨nd, rfl⟩⟩))
   go_meet
   case rel => exact ⟨_, (decide (t223 ≥ 0)), eQ_, H, ⟨by first | omega | exact Nat.le_refl _⟩, ⟨rB_ BK216⟩, ⟨rB_ BK217⟩, ⟨bt_ HB GE216 GE217⟩⟩
  rw [if_neg c11] at H
  have c11b0 := dF_ c11
  clear c11
  (first | rw [c11b0] | (simp only [i64_w, i32_w]; rw [c11b0]) | skip)
  replace H := aM_ H
  go_wp2
  go_meet
  case rel => exact ⟨_, (false), eQ_, H, ⟨by first | omega | exact Nat.le_refl _⟩, ⟨rB_ BK216⟩, ⟨rB_ BK217⟩, ⟨bt_ HB GE216 GE217⟩⟩
 case rest =>
  clear HC5
  obtain ⟨kq, x20_4, rfl, HA, HJ4, BK216, BK217, HB⟩ := hcut
  cases kq with
  | zero => exact absurd HA.out (by simp [r13_dist.j0])
  | succ kj4 =>
   have H := HA.out
   clear HA
   simp only [r13_dist.j0] at H
   have HC18 := aM_ H
   clear H
   go_upto_if 20 with (fail)
   go_cut [5] (fun v5 wc => ∃ (kq : Nat) (x5_17 : Int), v5 = .int .i64 x5_17 ∧ As_ (r13_dist.j1 kq x5_17 t218 t219 a0_0 a0_1 a0_2 a0_3 a0_4 a0_5 a1_0 a1_1 a1_2 a1_3 a1_4 a1_5 = some r) ∧ As_ (kq ≤ kj4) ∧ As_ (wc.heap[gb216]? = some (.cells #[.int .i64 a0_0, .int .i64 a0_1, .int .i64 a0_2, .int .i64 a0_3, .int .i64 a0_4, .string a0_5] 24 (0, 0))) ∧ As_ (wc.heap[gb217]? = some (.cells #[.int .i64 a1_0, .int .i64 a1_1, .int .i64 a1_2, .int .i64 a1_3, .int .i64 a1_4, .string a1_5] 24 (0, 0))) ∧ As_ (Below w.heap.size w wc))
   case first =>
    have H := HC18.out
    clear HC18
    by_cases c19 : x20_4 = true
    ·subst c19
     rw [if_pos rfl] at H
     replace H := aM_ H
     go_wp2
     go_meet
     case rel => exact ⟨_, (0), eQ_, H, ⟨by have := HJ4.out; first | omega | exact Nat.le_refl _⟩, ⟨rB_ BK216⟩, ⟨rB_ BK217⟩, ⟨bt_ HB GE216 GE217⟩⟩
    replace c19 := eF_ c19
    subst c19
    rw [if_neg Bool.false_ne_true] at H
    replace H := aM_ H
    go_wp2
    go_meet
    case rel => exact ⟨_, ((-1)), eQ_, H, ⟨by have := HJ4.out; first | omega | exact Nat.le_refl _⟩, ⟨rB_ BK216⟩, ⟨rB_ BK217⟩, ⟨bt_ HB GE216 GE217⟩⟩
   case rest =>
    clear HC18
    obtain ⟨kq, x5_17, rfl, HA, HJ17, BK216, BK217, HB⟩ := hcut
    cases kq with
    | zero => exact absurd HA.out (by simp [r13_dist.j1])
    | succ kj17 =>
     have H := HA.out
     clear HA
     simp only [r13_dist.j1] at H
     have HC20 := aM_ H
     clear H
     go_upto_region 5 with (fail)
     go_cut [28] (fun v28 wc => ∃ (kq : Nat) (x28_19 : Bool), v28 = .bool x28_19 ∧ As_ (r13_dist.j2 kq x5_17 t218 t219 x28_19 a0_0 a0_1 a0_2 a0_3 a0_4 a0_5 a1_0 a1_1 a1_2 a1_3 a1_4 a1_5 = some r) ∧ As_ (kq ≤ kj17) ∧ As_ (wc.heap[gb216]? = some (.cells #[.int .i64 a0_0, .int .i64 a0_1, .int .i64 a0_2, .int .i64 a0_3, .int .i64 a0_4, .string a0_5] 24 (0, 0))) ∧ As_ (wc.heap[gb217]? = some (.cells #[.int .i64 a1_0, .int .i64 a1_1, .int .i64 a1_2, .int .i64 a1_3, .int .i64 a1_4, .string a1_5] 24 (0, 0))) ∧ As_ (Below w.heap.size w wc))
     case first =>
      have H := HC20.out
      clear HC20
      replace H := oB_ H
      obtain ⟨t224, A21, H⟩ := H
      by_cases c22 : t224 = true
      ·subst c22
       rw [if_pos rfl] at H
       replace H := oB_ H
       obtain ⟨t225, A23, H⟩ := H
       replace H := aM_ H
       have hnb24 := NB216_217.out
       have hnc24 := NB217_216.out
       obtain ⟨hcz25_0, hcz25_1, hcz25_2, hcz25_3, hcz25_4, hcz25_5⟩ := cl6_ BK216.out
       obtain ⟨hfz25_0, hfz25_1, hfz25_2, hfz25_3, hfz25_4, hfz25_5⟩ := fz6_ BK216.out
       go_wp2_with (first | ((with_reducible refine gC_ (f := 36) rfl ?_); refine gL_ (some 23) Try.func36 #[.int .i64 a0_0] rfl ?_; (with_reducible refine (r3_Effect.calls a0_0 true _ A21.out).mono ?_); rintro e w' ⟨rfl, ⟨nd, rfl⟩⟩; refine ⟨_, rfl, ?_⟩; obtain ⟨hcz26_0, hcz26_1, hcz26_2, hcz26_3, hcz26_4, hcz26_5⟩ := cl6_ BK217.out; obtain ⟨hfz26_0, hfz26_1, hfz26_2, hfz26_3, hfz26_4, hfz26_5⟩ := fz6_ BK217.out) | (go_at_call 36; (with_reducible refine (r3_Effect.calls a1_0 t225 _ A23.out).mono ?_); rintro e w' ⟨rfl, ⟨nd, rfl⟩⟩))
       go_meet
       case rel => exact ⟨_, (t225), eQ_, H, ⟨by have := HJ4.out; have := HJ17.out; first | omega | exact Nat.le_refl _⟩, ⟨rB_ BK216⟩, ⟨rB_ BK217⟩, ⟨bt_ HB GE216 GE217⟩⟩
      replace c22 := eF_ c22
      subst c22
      rw [if_neg Bool.false_ne_true] at H
      replace H := aM_ H
      have hnb27 := NB216_217.out
      have hnc27 := NB217_216.out
      obtain ⟨hcz28_0, hcz28_1, hcz28_2, hcz28_3, hcz28_4, hcz28_5⟩ := cl6_ BK216.out
      obtain ⟨hfz28_0, hfz28_1, hfz28_2, hfz28_3, hfz28_4, hfz28_5⟩ := fz6_ BK216.out
      go_wp2_with (first | ((with_reducible refine gC_ (f := 36) rfl ?_); refine gL_ (some 23) Try.func36 #[.int .i64 a0_0] rfl ?_; (with_reducible refine (r3_Effect.calls a0_0 false _ A21.out).mono ?_); rintro e w' ⟨rfl, ⟨nd, rfl⟩⟩; refine ⟨_, rfl, ?_⟩))
      go_meet
      case rel => exact ⟨_, (false), eQ_, H, ⟨by have := HJ4.out; have := HJ17.out; first | omega | exact Nat.le_refl _⟩, ⟨rB_ BK216⟩, ⟨rB_ BK217⟩, ⟨bt_ HB GE216 GE217⟩⟩
     case rest =>
      clear HC20
      obtain ⟨kq, x28_19, rfl, HA, HJ19, BK216, BK217, HB⟩ := hcut
      cases kq with
      | zero => exact absurd HA.out (by simp [r13_dist.j2])
      | succ kj19 =>
       have H := HA.out
       clear HA
       simp only [r13_dist.j2] at H
       have HC29 := aM_ H
       clear H
       go_upto_if 28 with (fail)
       go_cut [5] (fun v5 wc => ∃ (kq : Nat) (x5_28 : Int), v5 = .int .i64 x5_28 ∧ As_ (r13_dist.j3 kq x5_28 t218 t219 a0_0 a0_1 a0_2 a0_3 a0_4 a0_5 a1_0 a1_1 a1_2 a1_3 a1_4 a1_5 = some r) ∧ As_ (kq ≤ kj19) ∧ As_ (wc.heap[gb216]? = some (.cells #[.int .i64 a0_0, .int .i64 a0_1, .int .i64 a0_2, .int .i64 a0_3, .int .i64 a0_4, .string a0_5] 24 (0, 0))) ∧ As_ (wc.heap[gb217]? = some (.cells #[.int .i64 a1_0, .int .i64 a1_1, .int .i64 a1_2, .int .i64 a1_3, .int .i64 a1_4, .string a1_5] 24 (0, 0))) ∧ As_ (Below w.heap.size w wc))
       case first =>
        have H := HC29.out
        clear HC29
        by_cases c30 : x28_19 = true
        ·subst c30
         rw [if_pos rfl] at H
         replace H := aM_ H
         go_wp2
         go_meet
         case rel => exact ⟨_, (1), eQ_, H, ⟨by have := HJ4.out; have := HJ17.out; have := HJ19.out; first | omega | exact Nat.le_refl _⟩, ⟨rB_ BK216⟩, ⟨rB_ BK217⟩, ⟨bt_ HB GE216 GE217⟩⟩
        replace c30 := eF_ c30
        subst c30
        rw [if_neg Bool.false_ne_true] at H
        replace H := aM_ H
        go_wp2
        go_meet
        case rel => exact ⟨_, (x5_17), eQ_, H, ⟨by have := HJ4.out; have := HJ17.out; have := HJ19.out; first | omega | exact Nat.le_refl _⟩, ⟨rB_ BK216⟩, ⟨rB_ BK217⟩, ⟨bt_ HB GE216 GE217⟩⟩
       case rest =>
        clear HC29
        obtain ⟨kq, x5_28, rfl, HA, HJ28, BK216, BK217, HB⟩ := hcut
        cases kq with
        | zero => exact absurd HA.out (by simp [r13_dist.j3])
        | succ kj28 =>
         have H := HA.out
         clear HA
         simp only [r13_dist.j3] at H
         have HC31 := aM_ H
         clear H
         go_upto_region 7 with (fail)
         go_cut [42] (fun v42 wc => ∃ (kq : Nat) (x42_30 : Bool), v42 = .bool x42_30 ∧ As_ (r13_dist.j4 kq x5_28 x42_30 a0_0 a0_1 a0_2 a0_3 a0_4 a0_5 = some r) ∧ As_ (kq ≤ kj28) ∧ As_ (wc.heap[gb216]? = some (.cells #[.int .i64 a0_0, .int .i64 a0_1, .int .i64 a0_2, .int .i64 a0_3, .int .i64 a0_4, .string a0_5] 24 (0, 0))) ∧ As_ (wc.heap[gb217]? = some (.cells #[.int .i64 a1_0, .int .i64 a1_1, .int .i64 a1_2, .int .i64 a1_3, .int .i64 a1_4, .string a1_5] 24 (0, 0))) ∧ As_ (Below w.heap.size w wc))
         case first =>
          have H := HC31.out
          clear HC31
          by_cases c32 : t218 ≥ 0
          ·rw [if_pos c32] at H
           have c32b0 := dE_ c32
           clear c32
           (first | rw [c32b0] | (simp only [i64_w, i32_w]; rw [c32b0]) | skip)
           by_cases c33 : t218 = t219
           ·rw [if_pos c33] at H
            have c33b0 := bH_ c33
            have c33b1 := bF_ c33
            clear c33
            replace H := aM_ H
            go_wp2
            go_meet
            case rel => exact ⟨_, (true), eQ_, H, ⟨by have := HJ4.out; have := HJ17.out; have := HJ19.out; have := HJ28.out; first | omega | exact Nat.le_refl _⟩, ⟨rB_ BK216⟩, ⟨rB_ BK217⟩, ⟨bt_ HB GE216 GE217⟩⟩
           rw [if_neg c33] at H
           have c33b0 := bE_ c33
           have c33b1 := bG_ c33
           replace H := oB_ H
           obtain ⟨t226, A34, H⟩ := H
           replace H := oB_ H
           obtain ⟨t229, A35, H⟩ := H
           replace H := aM_ H
           have hnb36 := NB217_216.out
           have hnc36 := NB216_217.out
           obtain ⟨hcz37_0, hcz37_1, hcz37_2, hcz37_3, hcz37_4, hcz37_5⟩ := cl6_ BK217.out
           obtain ⟨hfz37_0, hfz37_1, hfz37_2, hfz37_3, hfz37_4, hfz37_5⟩ := fz6_ BK217.out
           go_wp2_with (first | (go_at_call 73; (with_reducible refine (r3_Reads.calls kj28 a1_0 a1_1 a1_2 a1_3 a1_4 a1_5 t226 _ A34.out).mono ?_); rintro e w38 ⟨v227, rfl, ho0, hb⟩; replace HO228 := aM_ (Kd.R_lower ho0 (bY_ (bt_ HB GE216 GE217))); replace BK216 := aM_ (kB_ (rB_ BK216) hb); replace BK217 := aM_ (kB_ (rB_ BK217) hb); replace HB := aM_ (bT_ (bt_ HB GE216 GE217) hb); (try clear ho0); obtain ⟨Ao39, co39, eo39⟩ := Kd.R_slice HO228.out; subst eo39) | (go_at_call 72; (with_reducible refine (r0_In.calls kj28 _ _ t226 t218 t229 _ ?side1 ?side2 A35.out).mono ?_); (case side1 => exact rC_ (Kd.R_reads' HO228.out).2.2); (case side2 => exact (Kd.R_reads' HO228.out).2.1); rintro e w' ⟨rfl, ⟨nd, rfl⟩⟩))
           go_meet
           case rel => exact ⟨_, (decide (t229 ≥ 0)), eQ_, H, ⟨by have := HJ4.out; have := HJ17.out; have := HJ19.out; have := HJ28.out; first | omega | exact Nat.le_refl _⟩, ⟨rB_ BK216⟩, ⟨rB_ BK217⟩, ⟨bt_ HB GE216 GE217⟩⟩
          rw [if_neg c32] at H
          have c32b0 := dF_ c32
          clear c32
          (first | rw [c32b0] | (simp only [i64_w, i32_w]; rw [c32b0]) | skip)
          replace H := aM_ H
          go_wp2
          go_meet
          case rel => exact ⟨_, (false), eQ_, H, ⟨by have := HJ4.out; have := HJ17.out; have := HJ19.out; have := HJ28.out; first | omega | exact Nat.le_refl _⟩, ⟨rB_ BK216⟩, ⟨rB_ BK217⟩, ⟨bt_ HB GE216 GE217⟩⟩
         case rest =>
          clear HC31
          obtain ⟨kq, x42_30, rfl, HA, HJ30, BK216, BK217, HB⟩ := hcut
          cases kq with
          | zero => exact absurd HA.out (by simp [r13_dist.j4])
          | succ kj30 =>
           have H := HA.out
           clear HA
           simp only [r13_dist.j4] at H
           by_cases c40 : x42_30 = true
           ·subst c40
            rw [if_pos rfl] at H
            replace H := oB_ H
            obtain ⟨t230, A41, H⟩ := H
            obtain ⟨ji42, hji42⟩ : ∃ j_ : Int, (mx x5_28 t230) = j_ := ⟨_, rfl⟩
            replace H : (some ji42) = some r := by first | (rw [hji42] at H; exact H) | (simp only [hji42] at H ⊢; exact H)
            (try rw [hji42] at A41)
            have hji42_ : (if x5_28 < t230 then t230 else x5_28) = ji42 := hji42
            obtain rfl := oI_ H
            have hnb43 := NB216_217.out
            have hnc43 := NB217_216.out
            obtain ⟨hcz44_0, hcz44_1, hcz44_2, hcz44_3, hcz44_4, hcz44_5⟩ := cl6_ BK216.out
            obtain ⟨hfz44_0, hfz44_1, hfz44_2, hfz44_3, hfz44_4, hfz44_5⟩ := fz6_ BK216.out
            go_wp2_with (first | ((with_reducible refine gC_ (f := 27) rfl ?_); refine gL_ (some 46) Try.func27 #[.int .i64 a0_0] rfl ?_; (with_reducible refine (r3_Latency.calls kj30 a0_0 t230 _ A41.out).mono ?_); rintro e w' ⟨rfl, ⟨nd, rfl⟩⟩; refine ⟨_, rfl, ?_⟩))
            go_ret
            exact ⟨by first | rfl | (simp [eN_, eS_] <;> rfl) | (simp only [← hji42]; first | rfl | (simp [eN_, eS_] <;> rfl)) | (simp [*, eN_, eS_] <;> rfl), bt_ HB GE216 GE217⟩
           replace c40 := eF_ c40
           subst c40
           rw [if_neg Bool.false_ne_true] at H
           obtain rfl := oI_ H
           go_wp2
           go_ret
           exact ⟨eR_, bt_ HB GE216 GE217⟩
end Go.Proofs.Ytibfkkjkahpobaa.PDag
