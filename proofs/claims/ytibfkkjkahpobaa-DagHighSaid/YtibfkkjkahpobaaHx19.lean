import Derived.Test.YtibfkkjkahpobaaHx15
import Derived.Test.YtibfkkjkahpobaaHx16
import Derived.Test.YtibfkkjkahpobaaHx18
set_option linter.unusedVariables false
set_option linter.unusedSimpArgs false
set_option maxHeartbeats 8000000
set_option maxRecDepth 100000
namespace Go.Proofs.Ytibfkkjkahpobaa.PDag
open Go.RowKit Go.Proofs.YtibfkkjkahpobaaW.PrintWords Go.Proofs.YtibfkkjkahpobaaW.PrintLast Go.Proofs.YtibfkkjkahpobaaW.PrintMore
attribute [local go_sem] max2_int min2_int max_two min_two max_three min_three max_four min_four
def isa_IsIns.f (k : Nat) (a0_0 : Int) (a0_1 : Int) (a0_2 : Int) (a0_3 : Int) (a0_4 : Int) (a0_5 : ByteArray) : Option (Bool) := (isa_Is.f a0_0).bind fun t112 => (if t112 = true then ((isa_Shape.f k a0_0).bind fun t113 => ((isa_HasD.f t113).bind fun t114 => ((isa_reg.f t114 a0_1).bind fun t115 => (if t115 = true then ((isa_HasA.f k t113).bind fun t116 => ((isa_reg.f t116 a0_2).bind fun t117 => (if t117 = true then ((isa_HasB.f t113).bind fun t118 => ((isa_reg.f t118 a0_3).bind fun t119 => (if t119 = true then ((isa_imm.f k a0_0 a0_1 a0_2 a0_3 a0_4 a0_5 t113).bind fun t120 => (some t120)) else (some false)))) else (some false)))) else (some false))))) else (some false))
theorem isa_IsIns.mono : ∀ a0 a1 a2 a3 a4 a5 k, LeO (isa_IsIns.f k a0 a1 a2 a3 a4 a5) (isa_IsIns.f (k + 1) a0 a1 a2 a3 a4 a5) := by
 intro a0 a1 a2 a3 a4 a5 k
 unfold isa_IsIns.f
 repeat' first
  | (with_reducible exact isa_HasA.mono _ _)
  | (with_reducible exact isa_Shape.mono _ _)
  | (with_reducible exact isa_imm.mono _ _ _ _ _ _ _ _)
  | (with_reducible exact LeO.refl _)
  | (with_reducible exact LeO.none _)
  | (with_reducible refine LeO.ite ?_ ?_)
  | (with_reducible refine LeO.bind ?_ (fun _ => ?_))
  | exact LeO.none _
  | refine LeO.ite ?_ ?_
  | refine LeO.bind ?_ (fun _ => ?_)
def isa_IsIns.T4 : Bool × List (List Nat × List Nat) := (true, [([], []), ([0], [0]), ([], []), ([2], [2]), ([1, 3, 1], [1, 3]), ([4, 4], [4]), ([5], [5]), ([6, 5, 5], [5, 6]), ([5], [5]), ([8, 5], [5, 8]), ([7, 9, 7, 5], [5, 7, 9]), ([5, 10], [5, 10]), ([11, 10], [11]), ([12], [12]), ([13, 12, 12], [12, 13]), ([12], [12]), ([15, 12], [12, 15]), ([14, 16, 14, 12], [12, 14, 16]), ([12, 17], [12, 17]), ([18, 17], [18]), ([19], [19]), ([19], [19]), ([20, 21, 19, 19], [19, 20, 21]), ([19, 22], [19, 22]), ([23, 22, 0, 1, 2, 3, 4, 5, 6, 7, 8, 9, 10, 11, 12, 13, 14, 15, 16, 17, 18, 19, 20, 21, 22, 23], [23])])
def isa_IsIns.B4 : List Nat := [0, 1, 0, 4, 15, 31, 63, 127, 63, 319, 1023, 2047, 4095, 8191, 16383, 8191, 40959, 131071, 262143, 524287, 1048575, 1048575, 4194303, 8388607, 16777215]
theorem isa_IsIns.tab4 : rtab .any (opsOf Try.f63 4) = isa_IsIns.T4 := by kernel_rfl
theorem isa_IsIns.bits4 : waitsOk isa_IsIns.T4.2 isa_IsIns.B4 = true := by kernel_rfl
theorem isa_IsIns.calls (k : Nat) (a0_0 : Int) (a0_1 : Int) (a0_2 : Int) (a0_3 : Int) (a0_4 : Int) (a0_5 : ByteArray) (r : Bool) (w : World) (h : isa_IsIns.f k a0_0 a0_1 a0_2 a0_3 a0_4 a0_5 = some r) :
    Calls Try.prog 63 #[.agg #[.int .i64 a0_0, .int .i64 a0_1, .int .i64 a0_2, .int .i64 a0_3, .int .i64 a0_4, .string a0_5]] w fun e w' => e = .returned (.bool r) ∧ Below w.heap.size w w' := by
 have hu24 := Try.underlying24
 have HB := aM_ (Below.refl w.heap.size w)
 have H : ((isa_Is.f a0_0).bind fun t112 => (if t112 = true then ((isa_Shape.f k a0_0).bind fun t113 => ((isa_HasD.f t113).bind fun t114 => ((isa_reg.f t114 a0_1).bind fun t115 => (if t115 = true then ((isa_HasA.f k t113).bind fun t116 => ((isa_reg.f t116 a0_2).bind fun t117 => (if t117 = true then ((isa_HasB.f t113).bind fun t118 => ((isa_reg.f t118 a0_3).bind fun t119 => (if t119 = true then ((isa_imm.f k a0_0 a0_1 a0_2 a0_3 a0_4 a0_5 t113).bind fun t120 => (some t120)) else (some false)))) else (some false)))) else (some false))))) else (some false))) = some r := h
 clear h
 replace H := oB_ H
 obtain ⟨t112, A2, H⟩ := H
 by_cases c3 : t112 = true
 ·subst c3
  rw [if_pos rfl] at H
  replace H := oB_ H
  obtain ⟨t113, A4, H⟩ := H
  replace H := oB_ H
  obtain ⟨t114, A5, H⟩ := H
  replace H := oB_ H
  obtain ⟨t115, A6, H⟩ := H
  by_cases c7 : t115 = true
  ·subst c7
   rw [if_pos rfl] at H
   replace H := oB_ H
   obtain ⟨t116, A8, H⟩ := H
   replace H := oB_ H
   obtain ⟨t117, A9, H⟩ := H
   by_cases c10 : t117 = true
   ·subst c10
    rw [if_pos rfl] at H
    replace H := oB_ H
    obtain ⟨t118, A11, H⟩ := H
    replace H := oB_ H
    obtain ⟨t119, A12, H⟩ := H
    by_cases c13 : t119 = true
    ·subst c13
     rw [if_pos rfl] at H
     replace H := oB_ H
     obtain ⟨t120, A14, H⟩ := H
     obtain rfl := oI_ H
     go_enter Try.func63, Try.ntmps63
     try go_wp2_with (first | ((with_reducible refine gate_dst (N := 1) rfl ?_); refine bX_ (N := 1) (cs := #[.int .i64 a0_0, .int .i64 a0_1, .int .i64 a0_2, .int .i64 a0_3, .int .i64 a0_4, .string a0_5]) (t := 24) ?_; intro gb111 hg w15 hbox hb; replace BK111 := aM_ (hbox); replace GW111 := aM_ (gE_ hg (bl_ HB)); replace GE111 := aM_ (gE_ hg (bl_ HB)); replace HB := aM_ (bT_ (bl_ HB) hb); clear hb hbox hg; obtain ⟨hcz16_0, hcz16_1, hcz16_2, hcz16_3, hcz16_4, hcz16_5⟩ := cl6_ BK111.out; obtain ⟨hfz16_0, hfz16_1, hfz16_2, hfz16_3, hfz16_4, hfz16_5⟩ := fz6_ BK111.out) | ((with_reducible refine gC_ (f := 96) rfl ?_); refine gL_ (some 6) Try.func96 #[.int .i64 a0_0] rfl ?_; (with_reducible refine (isa_Is.calls a0_0 true _ A2.out).mono ?_); rintro e w' ⟨rfl, ⟨nd, rfl⟩⟩; refine ⟨_, rfl, ?_⟩) | ((with_reducible refine gC_ (f := 97) rfl ?_); refine gL_ (some 10) Try.func97 #[.int .i64 a0_0] rfl ?_; (with_reducible refine (isa_Shape.calls k a0_0 t113 _ A4.out).mono ?_); rintro e w' ⟨rfl, ⟨nd, rfl⟩⟩; refine ⟨_, rfl, ?_⟩))
     (try (rw [drewN_self w15]; generalize hq_ : World.drewN w15 _ = w15; replace BK111 : As_ (w15.heap[gb111]? = some (.cells #[.int .i64 a0_0, .int .i64 a0_1, .int .i64 a0_2, .int .i64 a0_3, .int .i64 a0_4, .string a0_5] 24 (0, 0))) := ⟨by rw [← hq_]; exact (rB_ BK111)⟩; replace HB : As_ (Below w.heap.size w w15) := ⟨by rw [← hq_]; exact (bs_ HB GE111)⟩; clear hq_))
     replace BK111 := aM_ (kD_ BK111.out)
     replace HB := aM_ (b1_ HB.out)
     refine start_ (n := 25) (S := fun w' => w'.cell? ⟨gb111, 0, none⟩ = some (.int .i64 a0_0) ∧ w'.cell? ⟨gb111, 1, none⟩ = some (.int .i64 a0_1) ∧ w'.cell? ⟨gb111, 2, none⟩ = some (.int .i64 a0_2) ∧ w'.cell? ⟨gb111, 3, none⟩ = some (.int .i64 a0_3) ∧ w'.cell? ⟨gb111, 4, none⟩ = some (.int .i64 a0_4) ∧ w'.cell? ⟨gb111, 5, none⟩ = some (.string a0_5)) (ds := []) (bm 25 0) (by kernel_rfl) rfl (by kernel_rfl) ⟨(bC_ BK111.out 0).trans rfl, (bC_ BK111.out 1).trans rfl, (bC_ BK111.out 2).trans rfl, (bC_ BK111.out 3).trans rfl, (bC_ BK111.out 4).trans rfl, (bC_ BK111.out 5).trans rfl⟩ (fun hHeld => ?_); refine with_tabW isa_IsIns.tab4 isa_IsIns.bits4 (fun HT_ HW_ => ?_)
     generalize w15.drew = w17 at BK111 HB hHeld ⊢
     refine seq_ (k := 22) [(0, some 11, false), (2, some 13, false), (3, some 14, true)] (bm 25 13) rfl (seq_of HT_.out HW_.out (by kernel_rfl)) (fun _ _ _ _ _ h => h) hHeld ?_
     repeat (first | (refine SeqOn.pure (v := ?_) (a' := ?_) rfl rfl (Or.inl ⟨by kernel_rfl, ?_⟩) ?_ ?_; rotate_left 2; (focus (intro w'; go_simp; with_reducible rfl)); (focus exact pU_)) | (refine SeqOn.take (v := ?_) (a' := ?_) rfl rfl (Or.inl ⟨by kernel_rfl, ?_⟩) ?_ ?_; rotate_left 2; (focus (rintro w' ⟨s0, s1, s2, s3, s4, s5⟩; go_simp; with_reducible rfl)); (focus exact pU_)))
     refine SeqOn.nil ?_
     refine one_ (i := 1) (N := some 12) (bm 25 15) rfl rfl (one_of HT_.out (by kernel_rfl)) (by decide) (fun K hK => ?_)
     refine gO_ Try.func99 #[.int .i64 t113] rfl ?_
     with_reducible refine (isa_HasD.calls t113 t114 _ A5.out).mono ?_
     rintro e w' ⟨rfl, ⟨nd, rfl⟩⟩
     refine ⟨_, rfl, ?_⟩
     refine hK.out _ _ ⟨(bC_ BK111.out 0).trans rfl, (bC_ BK111.out 1).trans rfl, (bC_ BK111.out 2).trans rfl, (bC_ BK111.out 3).trans rfl, (bC_ BK111.out 4).trans rfl, (bC_ BK111.out 5).trans rfl⟩ (fun hHeld => ?_)
     clear hK K
     refine norm_ (a' := ?_) ?_ ?_
     rotate_left
     ·show Act.put _ (some 12) _ = _
      simp only [Act.put, List.setIfInBounds_toArray, List.set_cons_zero, List.set_cons_succ, i64_w, i32_w]
      rfl
     refine one_ (i := 4) (N := some 15) (bm 25 31) rfl rfl (one_of HT_.out (by kernel_rfl)) (by decide) (fun K hK => ?_)
     refine gO_ Try.func98 #[.bool t114, .int .i64 a0_1] rfl ?_
     with_reducible refine (isa_reg.calls t114 a0_1 true _ A6.out).mono ?_
     rintro e w' ⟨rfl, ⟨nd, rfl⟩⟩
     refine ⟨_, rfl, ?_⟩
     refine hK.out _ _ ⟨(bC_ BK111.out 0).trans rfl, (bC_ BK111.out 1).trans rfl, (bC_ BK111.out 2).trans rfl, (bC_ BK111.out 3).trans rfl, (bC_ BK111.out 4).trans rfl, (bC_ BK111.out 5).trans rfl⟩ (fun hHeld => ?_)
     clear hK K
     refine norm_ (a' := ?_) ?_ ?_
     rotate_left
     ·show Act.put _ (some 15) _ = _
      simp only [Act.put, List.setIfInBounds_toArray, List.set_cons_zero, List.set_cons_succ, i64_w, i32_w]
      rfl
     refine seq_ (k := 16) [(5, some 16, false), (6, some 17, false), (8, some 19, false), (9, some 20, true)] (bm 25 895) rfl (seq_of HT_.out HW_.out (by kernel_rfl)) (fun _ _ _ _ _ h => h) hHeld ?_
     repeat (first | (refine SeqOn.pure (v := ?_) (a' := ?_) rfl rfl (Or.inl ⟨by kernel_rfl, ?_⟩) ?_ ?_; rotate_left 2; (focus (intro w'; go_simp; with_reducible rfl)); (focus exact pU_)) | (refine SeqOn.take (v := ?_) (a' := ?_) rfl rfl (Or.inl ⟨by kernel_rfl, ?_⟩) ?_ ?_; rotate_left 2; (focus (rintro w' ⟨s0, s1, s2, s3, s4, s5⟩; go_simp; with_reducible rfl)); (focus exact pU_)))
     refine SeqOn.nil ?_
     refine one_ (i := 7) (N := some 18) (bm 25 1023) rfl rfl (one_of HT_.out (by kernel_rfl)) (by decide) (fun K hK => ?_)
     refine gO_ Try.func100 #[.int .i64 t113] rfl ?_
     with_reducible refine (isa_HasA.calls k t113 t116 _ A8.out).mono ?_
     rintro e w' ⟨rfl, ⟨nd, rfl⟩⟩
     refine ⟨_, rfl, ?_⟩
     refine hK.out _ _ ⟨(bC_ BK111.out 0).trans rfl, (bC_ BK111.out 1).trans rfl, (bC_ BK111.out 2).trans rfl, (bC_ BK111.out 3).trans rfl, (bC_ BK111.out 4).trans rfl, (bC_ BK111.out 5).trans rfl⟩ (fun hHeld => ?_)
     clear hK K
     refine norm_ (a' := ?_) ?_ ?_
     rotate_left
     ·show Act.put _ (some 18) _ = _
      simp only [Act.put, List.setIfInBounds_toArray, List.set_cons_zero, List.set_cons_succ, i64_w, i32_w]
      rfl
     refine one_ (i := 10) (N := some 21) (bm 25 2047) rfl rfl (one_of HT_.out (by kernel_rfl)) (by decide) (fun K hK => ?_)
     refine gO_ Try.func98 #[.bool t116, .int .i64 a0_2] rfl ?_
     with_reducible refine (isa_reg.calls t116 a0_2 true _ A9.out).mono ?_
     rintro e w' ⟨rfl, ⟨nd, rfl⟩⟩
     refine ⟨_, rfl, ?_⟩
     refine hK.out _ _ ⟨(bC_ BK111.out 0).trans rfl, (bC_ BK111.out 1).trans rfl, (bC_ BK111.out 2).trans rfl, (bC_ BK111.out 3).trans rfl, (bC_ BK111.out 4).trans rfl, (bC_ BK111.out 5).trans rfl⟩ (fun hHeld => ?_)
     clear hK K
     refine norm_ (a' := ?_) ?_ ?_
     rotate_left
     ·show Act.put _ (some 21) _ = _
      simp only [Act.put, List.setIfInBounds_toArray, List.set_cons_zero, List.set_cons_succ, i64_w, i32_w]
      rfl
     refine seq_ (k := 9) [(11, some 22, false), (12, some 23, false), (13, some 24, false), (15, some 26, false), (16, some 27, true)] (bm 25 114687) rfl (seq_of HT_.out HW_.out (by kernel_rfl)) (fun _ _ _ _ _ h => h) hHeld ?_
     repeat (first | (refine SeqOn.pure (v := ?_) (a' := ?_) rfl rfl (Or.inl ⟨by kernel_rfl, ?_⟩) ?_ ?_; rotate_left 2; (focus (intro w'; go_simp; with_reducible rfl)); (focus exact pU_)) | (refine SeqOn.take (v := ?_) (a' := ?_) rfl rfl (Or.inl ⟨by kernel_rfl, ?_⟩) ?_ ?_; rotate_left 2; (focus (rintro w' ⟨s0, s1, s2, s3, s4, s5⟩; go_simp; with_reducible rfl)); (focus exact pU_)))
     refine SeqOn.nil ?_
     refine one_ (i := 14) (N := some 25) (bm 25 131071) rfl rfl (one_of HT_.out (by kernel_rfl)) (by decide) (fun K hK => ?_)
     refine gO_ Try.func101 #[.int .i64 t113] rfl ?_
     with_reducible refine (isa_HasB.calls t113 t118 _ A11.out).mono ?_
     rintro e w' ⟨rfl, ⟨nd, rfl⟩⟩
     refine ⟨_, rfl, ?_⟩
     refine hK.out _ _ ⟨(bC_ BK111.out 0).trans rfl, (bC_ BK111.out 1).trans rfl, (bC_ BK111.out 2).trans rfl, (bC_ BK111.out 3).trans rfl, (bC_ BK111.out 4).trans rfl, (bC_ BK111.out 5).trans rfl⟩ (fun hHeld => ?_)
     clear hK K
     refine norm_ (a' := ?_) ?_ ?_
     rotate_left
     ·show Act.put _ (some 25) _ = _
      simp only [Act.put, List.setIfInBounds_toArray, List.set_cons_zero, List.set_cons_succ, i64_w, i32_w]
      rfl
     refine one_ (i := 17) (N := some 28) (bm 25 262143) rfl rfl (one_of HT_.out (by kernel_rfl)) (by decide) (fun K hK => ?_)
     refine gO_ Try.func98 #[.bool t118, .int .i64 a0_3] rfl ?_
     with_reducible refine (isa_reg.calls t118 a0_3 true _ A12.out).mono ?_
     rintro e w' ⟨rfl, ⟨nd, rfl⟩⟩
     refine ⟨_, rfl, ?_⟩
     refine hK.out _ _ ⟨(bC_ BK111.out 0).trans rfl, (bC_ BK111.out 1).trans rfl, (bC_ BK111.out 2).trans rfl, (bC_ BK111.out 3).trans rfl, (bC_ BK111.out 4).trans rfl, (bC_ BK111.out 5).trans rfl⟩ (fun hHeld => ?_)
     clear hK K
     refine norm_ (a' := ?_) ?_ ?_
     rotate_left
     ·show Act.put _ (some 28) _ = _
      simp only [Act.put, List.setIfInBounds_toArray, List.set_cons_zero, List.set_cons_succ, i64_w, i32_w]
      rfl
     refine seq_ (k := 3) [(18, some 29, false), (19, some 30, false), (21, some 32, false), (20, some 31, true)] (bm 25 4194303) rfl (seq_of HT_.out HW_.out (by kernel_rfl)) (fun _ _ _ _ _ h => h) hHeld ?_
     repeat (first | (refine SeqOn.pure (v := ?_) (a' := ?_) rfl rfl (Or.inl ⟨by kernel_rfl, ?_⟩) ?_ ?_; rotate_left 2; (focus (intro w'; go_simp; with_reducible rfl)); (focus exact pU_)) | (refine SeqOn.take (v := ?_) (a' := ?_) rfl rfl (Or.inl ⟨by kernel_rfl, ?_⟩) ?_ ?_; rotate_left 2; (focus (rintro w' ⟨s0, s1, s2, s3, s4, s5⟩; go_simp; with_reducible rfl)); (focus exact pU_)))
     refine SeqOn.nil ?_
     refine one_ (i := 22) (N := some 33) (bm 25 8388607) rfl rfl (one_of HT_.out (by kernel_rfl)) (by decide) (fun K hK => ?_)
     refine gO_ Try.func102 #[.agg #[.int .i64 a0_0, .int .i64 a0_1, .int .i64 a0_2, .int .i64 a0_3, .int .i64 a0_4, .string a0_5], .int .i64 t113] rfl ?_
     with_reducible refine (isa_imm.calls k a0_0 a0_1 a0_2 a0_3 a0_4 a0_5 t113 t120 _ A14.out).mono ?_
     rintro e w18 ⟨rfl, hb⟩
     refine ⟨_, rfl, ?_⟩
     replace BK111 := aM_ (kB_ (rB_ BK111) hb)
     replace HB := aM_ (bT_ (bs_ HB GE111) hb)
     refine hK.out _ _ ⟨(bC_ BK111.out 0).trans rfl, (bC_ BK111.out 1).trans rfl, (bC_ BK111.out 2).trans rfl, (bC_ BK111.out 3).trans rfl, (bC_ BK111.out 4).trans rfl, (bC_ BK111.out 5).trans rfl⟩ (fun hHeld => ?_)
     clear hK K
     refine norm_ (a' := ?_) ?_ ?_
     rotate_left
     ·show Act.put _ (some 33) _ = _
      simp only [Act.put, List.setIfInBounds_toArray, List.set_cons_zero, List.set_cons_succ, i64_w, i32_w]
      rfl
     refine seq_ (k := 0) [(23, some 34, false), (24, some 2, false)] (bm 25 33554431) rfl (seq_of HT_.out HW_.out (by kernel_rfl)) (fun _ _ _ _ _ h => h) hHeld ?_
     repeat (first | (refine SeqOn.pure (v := ?_) (a' := ?_) rfl rfl (Or.inl ⟨by kernel_rfl, ?_⟩) ?_ ?_; rotate_left 2; (focus (intro w'; go_simp; with_reducible rfl)); (focus exact pU_)))
     refine SeqOn.nil ?_
     refine done_ (done_of HT_.out (by kernel_rfl)) ?_
     try go_wp2
     go_ret
     exact ⟨eR_, bs_ HB GE111⟩
    replace c13 := eF_ c13
    subst c13
    rw [if_neg Bool.false_ne_true] at H
    obtain rfl := oI_ H
    go_enter Try.func63, Try.ntmps63
    try go_wp2_with (first | ((with_reducible refine gate_dst (N := 1) rfl ?_); refine bX_ (N := 1) (cs := #[.int .i64 a0_0, .int .i64 a0_1, .int .i64 a0_2, .int .i64 a0_3, .int .i64 a0_4, .string a0_5]) (t := 24) ?_; intro gb111 hg w19 hbox hb; replace BK111 := aM_ (hbox); replace GW111 := aM_ (gE_ hg (bl_ HB)); replace GE111 := aM_ (gE_ hg (bl_ HB)); replace HB := aM_ (bT_ (bl_ HB) hb); clear hb hbox hg; obtain ⟨hcz20_0, hcz20_1, hcz20_2, hcz20_3, hcz20_4, hcz20_5⟩ := cl6_ BK111.out; obtain ⟨hfz20_0, hfz20_1, hfz20_2, hfz20_3, hfz20_4, hfz20_5⟩ := fz6_ BK111.out) | ((with_reducible refine gC_ (f := 96) rfl ?_); refine gL_ (some 6) Try.func96 #[.int .i64 a0_0] rfl ?_; (with_reducible refine (isa_Is.calls a0_0 true _ A2.out).mono ?_); rintro e w' ⟨rfl, ⟨nd, rfl⟩⟩; refine ⟨_, rfl, ?_⟩) | ((with_reducible refine gC_ (f := 97) rfl ?_); refine gL_ (some 10) Try.func97 #[.int .i64 a0_0] rfl ?_; (with_reducible refine (isa_Shape.calls k a0_0 t113 _ A4.out).mono ?_); rintro e w' ⟨rfl, ⟨nd, rfl⟩⟩; refine ⟨_, rfl, ?_⟩))
    (try (rw [drewN_self w19]; generalize hq_ : World.drewN w19 _ = w19; replace BK111 : As_ (w19.heap[gb111]? = some (.cells #[.int .i64 a0_0, .int .i64 a0_1, .int .i64 a0_2, .int .i64 a0_3, .int .i64 a0_4, .string a0_5] 24 (0, 0))) := ⟨by rw [← hq_]; exact (rB_ BK111)⟩; replace HB : As_ (Below w.heap.size w w19) := ⟨by rw [← hq_]; exact (bs_ HB GE111)⟩; clear hq_))
    replace BK111 := aM_ (kD_ BK111.out)
    replace HB := aM_ (b1_ HB.out)
    refine start_ (n := 25) (S := fun w' => w'.cell? ⟨gb111, 0, none⟩ = some (.int .i64 a0_0) ∧ w'.cell? ⟨gb111, 1, none⟩ = some (.int .i64 a0_1) ∧ w'.cell? ⟨gb111, 2, none⟩ = some (.int .i64 a0_2) ∧ w'.cell? ⟨gb111, 3, none⟩ = some (.int .i64 a0_3) ∧ w'.cell? ⟨gb111, 4, none⟩ = some (.int .i64 a0_4) ∧ w'.cell? ⟨gb111, 5, none⟩ = some (.string a0_5)) (ds := []) (bm 25 0) (by kernel_rfl) rfl (by kernel_rfl) ⟨(bC_ BK111.out 0).trans rfl, (bC_ BK111.out 1).trans rfl, (bC_ BK111.out 2).trans rfl, (bC_ BK111.out 3).trans rfl, (bC_ BK111.out 4).trans rfl, (bC_ BK111.out 5).trans rfl⟩ (fun hHeld => ?_); refine with_tabW isa_IsIns.tab4 isa_IsIns.bits4 (fun HT_ HW_ => ?_)
    generalize w19.drew = w21 at BK111 HB hHeld ⊢
    refine seq_ (k := 22) [(0, some 11, false), (2, some 13, false), (3, some 14, true)] (bm 25 13) rfl (seq_of HT_.out HW_.out (by kernel_rfl)) (fun _ _ _ _ _ h => h) hHeld ?_
    repeat (first | (refine SeqOn.pure (v := ?_) (a' := ?_) rfl rfl (Or.inl ⟨by kernel_rfl, ?_⟩) ?_ ?_; rotate_left 2; (focus (intro w'; go_simp; with_reducible rfl)); (focus exact pU_)) | (refine SeqOn.take (v := ?_) (a' := ?_) rfl rfl (Or.inl ⟨by kernel_rfl, ?_⟩) ?_ ?_; rotate_left 2; (focus (rintro w' ⟨s0, s1, s2, s3, s4, s5⟩; go_simp; with_reducible rfl)); (focus exact pU_)))
    refine SeqOn.nil ?_
    refine one_ (i := 1) (N := some 12) (bm 25 15) rfl rfl (one_of HT_.out (by kernel_rfl)) (by decide) (fun K hK => ?_)
    refine gO_ Try.func99 #[.int .i64 t113] rfl ?_
    with_reducible refine (isa_HasD.calls t113 t114 _ A5.out).mono ?_
    rintro e w' ⟨rfl, ⟨nd, rfl⟩⟩
    refine ⟨_, rfl, ?_⟩
    refine hK.out _ _ ⟨(bC_ BK111.out 0).trans rfl, (bC_ BK111.out 1).trans rfl, (bC_ BK111.out 2).trans rfl, (bC_ BK111.out 3).trans rfl, (bC_ BK111.out 4).trans rfl, (bC_ BK111.out 5).trans rfl⟩ (fun hHeld => ?_)
    clear hK K
    refine norm_ (a' := ?_) ?_ ?_
    rotate_left
    ·show Act.put _ (some 12) _ = _
     simp only [Act.put, List.setIfInBounds_toArray, List.set_cons_zero, List.set_cons_succ, i64_w, i32_w]
     rfl
    refine one_ (i := 4) (N := some 15) (bm 25 31) rfl rfl (one_of HT_.out (by kernel_rfl)) (by decide) (fun K hK => ?_)
    refine gO_ Try.func98 #[.bool t114, .int .i64 a0_1] rfl ?_
    with_reducible refine (isa_reg.calls t114 a0_1 true _ A6.out).mono ?_
    rintro e w' ⟨rfl, ⟨nd, rfl⟩⟩
    refine ⟨_, rfl, ?_⟩
    refine hK.out _ _ ⟨(bC_ BK111.out 0).trans rfl, (bC_ BK111.out 1).trans rfl, (bC_ BK111.out 2).trans rfl, (bC_ BK111.out 3).trans rfl, (bC_ BK111.out 4).trans rfl, (bC_ BK111.out 5).trans rfl⟩ (fun hHeld => ?_)
    clear hK K
    refine norm_ (a' := ?_) ?_ ?_
    rotate_left
    ·show Act.put _ (some 15) _ = _
     simp only [Act.put, List.setIfInBounds_toArray, List.set_cons_zero, List.set_cons_succ, i64_w, i32_w]
     rfl
    refine seq_ (k := 16) [(5, some 16, false), (6, some 17, false), (8, some 19, false), (9, some 20, true)] (bm 25 895) rfl (seq_of HT_.out HW_.out (by kernel_rfl)) (fun _ _ _ _ _ h => h) hHeld ?_
    repeat (first | (refine SeqOn.pure (v := ?_) (a' := ?_) rfl rfl (Or.inl ⟨by kernel_rfl, ?_⟩) ?_ ?_; rotate_left 2; (focus (intro w'; go_simp; with_reducible rfl)); (focus exact pU_)) | (refine SeqOn.take (v := ?_) (a' := ?_) rfl rfl (Or.inl ⟨by kernel_rfl, ?_⟩) ?_ ?_; rotate_left 2; (focus (rintro w' ⟨s0, s1, s2, s3, s4, s5⟩; go_simp; with_reducible rfl)); (focus exact pU_)))
    refine SeqOn.nil ?_
    refine one_ (i := 7) (N := some 18) (bm 25 1023) rfl rfl (one_of HT_.out (by kernel_rfl)) (by decide) (fun K hK => ?_)
    refine gO_ Try.func100 #[.int .i64 t113] rfl ?_
    with_reducible refine (isa_HasA.calls k t113 t116 _ A8.out).mono ?_
    rintro e w' ⟨rfl, ⟨nd, rfl⟩⟩
    refine ⟨_, rfl, ?_⟩
    refine hK.out _ _ ⟨(bC_ BK111.out 0).trans rfl, (bC_ BK111.out 1).trans rfl, (bC_ BK111.out 2).trans rfl, (bC_ BK111.out 3).trans rfl, (bC_ BK111.out 4).trans rfl, (bC_ BK111.out 5).trans rfl⟩ (fun hHeld => ?_)
    clear hK K
    refine norm_ (a' := ?_) ?_ ?_
    rotate_left
    ·show Act.put _ (some 18) _ = _
     simp only [Act.put, List.setIfInBounds_toArray, List.set_cons_zero, List.set_cons_succ, i64_w, i32_w]
     rfl
    refine one_ (i := 10) (N := some 21) (bm 25 2047) rfl rfl (one_of HT_.out (by kernel_rfl)) (by decide) (fun K hK => ?_)
    refine gO_ Try.func98 #[.bool t116, .int .i64 a0_2] rfl ?_
    with_reducible refine (isa_reg.calls t116 a0_2 true _ A9.out).mono ?_
    rintro e w' ⟨rfl, ⟨nd, rfl⟩⟩
    refine ⟨_, rfl, ?_⟩
    refine hK.out _ _ ⟨(bC_ BK111.out 0).trans rfl, (bC_ BK111.out 1).trans rfl, (bC_ BK111.out 2).trans rfl, (bC_ BK111.out 3).trans rfl, (bC_ BK111.out 4).trans rfl, (bC_ BK111.out 5).trans rfl⟩ (fun hHeld => ?_)
    clear hK K
    refine norm_ (a' := ?_) ?_ ?_
    rotate_left
    ·show Act.put _ (some 21) _ = _
     simp only [Act.put, List.setIfInBounds_toArray, List.set_cons_zero, List.set_cons_succ, i64_w, i32_w]
     rfl
    refine seq_ (k := 9) [(11, some 22, false), (12, some 23, false), (13, some 24, false), (15, some 26, false), (16, some 27, true)] (bm 25 114687) rfl (seq_of HT_.out HW_.out (by kernel_rfl)) (fun _ _ _ _ _ h => h) hHeld ?_
    repeat (first | (refine SeqOn.pure (v := ?_) (a' := ?_) rfl rfl (Or.inl ⟨by kernel_rfl, ?_⟩) ?_ ?_; rotate_left 2; (focus (intro w'; go_simp; with_reducible rfl)); (focus exact pU_)) | (refine SeqOn.take (v := ?_) (a' := ?_) rfl rfl (Or.inl ⟨by kernel_rfl, ?_⟩) ?_ ?_; rotate_left 2; (focus (rintro w' ⟨s0, s1, s2, s3, s4, s5⟩; go_simp; with_reducible rfl)); (focus exact pU_)))
    refine SeqOn.nil ?_
    refine one_ (i := 14) (N := some 25) (bm 25 131071) rfl rfl (one_of HT_.out (by kernel_rfl)) (by decide) (fun K hK => ?_)
    refine gO_ Try.func101 #[.int .i64 t113] rfl ?_
    with_reducible refine (isa_HasB.calls t113 t118 _ A11.out).mono ?_
    rintro e w' ⟨rfl, ⟨nd, rfl⟩⟩
    refine ⟨_, rfl, ?_⟩
    refine hK.out _ _ ⟨(bC_ BK111.out 0).trans rfl, (bC_ BK111.out 1).trans rfl, (bC_ BK111.out 2).trans rfl, (bC_ BK111.out 3).trans rfl, (bC_ BK111.out 4).trans rfl, (bC_ BK111.out 5).trans rfl⟩ (fun hHeld => ?_)
    clear hK K
    refine norm_ (a' := ?_) ?_ ?_
    rotate_left
    ·show Act.put _ (some 25) _ = _
     simp only [Act.put, List.setIfInBounds_toArray, List.set_cons_zero, List.set_cons_succ, i64_w, i32_w]
     rfl
    refine one_ (i := 17) (N := some 28) (bm 25 262143) rfl rfl (one_of HT_.out (by kernel_rfl)) (by decide) (fun K hK => ?_)
    refine gO_ Try.func98 #[.bool t118, .int .i64 a0_3] rfl ?_
    with_reducible refine (isa_reg.calls t118 a0_3 false _ A12.out).mono ?_
    rintro e w' ⟨rfl, ⟨nd, rfl⟩⟩
    refine ⟨_, rfl, ?_⟩
    refine hK.out _ _ ⟨(bC_ BK111.out 0).trans rfl, (bC_ BK111.out 1).trans rfl, (bC_ BK111.out 2).trans rfl, (bC_ BK111.out 3).trans rfl, (bC_ BK111.out 4).trans rfl, (bC_ BK111.out 5).trans rfl⟩ (fun hHeld => ?_)
    clear hK K
    refine norm_ (a' := ?_) ?_ ?_
    rotate_left
    ·show Act.put _ (some 28) _ = _
     simp only [Act.put, List.setIfInBounds_toArray, List.set_cons_zero, List.set_cons_succ, i64_w, i32_w]
     rfl
    refine seq_ (k := 5) [(18, some 29, false), (19, some 30, false)] (bm 25 1048575) rfl (seq_of HT_.out HW_.out (by kernel_rfl)) (fun _ _ _ _ _ h => h) hHeld ?_
    repeat (first | (refine SeqOn.pure (v := ?_) (a' := ?_) rfl rfl (Or.inl ⟨by kernel_rfl, ?_⟩) ?_ ?_; rotate_left 2; (focus (intro w'; go_simp; with_reducible rfl)); (focus exact pU_)))
    refine SeqOn.nil ?_
    refine offs_ (k := 2) (a' := ?_) [20, 21, 22] [some 31, some 32, some 33] (bm 25 8388607) rfl rfl (off_of HT_.out (by kernel_rfl)) (by kernel_rfl) (fun _ _ _ _ _ h => h) ?_ ?_
    rotate_left
    ·simp only [undefs, Act.put, List.setIfInBounds_toArray, List.set_cons_zero, List.set_cons_succ]
     rfl
    refine seq_ (k := 0) [(23, some 34, false), (24, some 2, false)] (bm 25 33554431) rfl (seq_of HT_.out HW_.out (by kernel_rfl)) (fun _ _ _ _ _ h => h) hHeld ?_
    repeat (first | (refine SeqOn.pure (v := ?_) (a' := ?_) rfl rfl (Or.inl ⟨by kernel_rfl, ?_⟩) ?_ ?_; rotate_left 2; (focus (intro w'; go_simp; with_reducible rfl)); (focus exact pU_)))
    refine SeqOn.nil ?_
    refine done_ (done_of HT_.out (by kernel_rfl)) ?_
    try go_wp2
    go_ret
    exact ⟨eR_, bs_ HB GE111⟩
   replace c10 := eF_ c10
   subst c10
   rw [if_neg Bool.false_ne_true] at H
   obtain rfl := oI_ H
   go_enter Try.func63, Try.ntmps63
   try go_wp2_with (first | ((with_reducible refine gate_dst (N := 1) rfl ?_); refine bX_ (N := 1) (cs := #[.int .i64 a0_0, .int .i64 a0_1, .int .i64 a0_2, .int .i64 a0_3, .int .i64 a0_4, .string a0_5]) (t := 24) ?_; intro gb111 hg w22 hbox hb; replace BK111 := aM_ (hbox); replace GW111 := aM_ (gE_ hg (bl_ HB)); replace GE111 := aM_ (gE_ hg (bl_ HB)); replace HB := aM_ (bT_ (bl_ HB) hb); clear hb hbox hg; obtain ⟨hcz23_0, hcz23_1, hcz23_2, hcz23_3, hcz23_4, hcz23_5⟩ := cl6_ BK111.out; obtain ⟨hfz23_0, hfz23_1, hfz23_2, hfz23_3, hfz23_4, hfz23_5⟩ := fz6_ BK111.out) | ((with_reducible refine gC_ (f := 96) rfl ?_); refine gL_ (some 6) Try.func96 #[.int .i64 a0_0] rfl ?_; (with_reducible refine (isa_Is.calls a0_0 true _ A2.out).mono ?_); rintro e w' ⟨rfl, ⟨nd, rfl⟩⟩; refine ⟨_, rfl, ?_⟩) | ((with_reducible refine gC_ (f := 97) rfl ?_); refine gL_ (some 10) Try.func97 #[.int .i64 a0_0] rfl ?_; (with_reducible refine (isa_Shape.calls k a0_0 t113 _ A4.out).mono ?_); rintro e w' ⟨rfl, ⟨nd, rfl⟩⟩; refine ⟨_, rfl, ?_⟩))
   (try (rw [drewN_self w22]; generalize hq_ : World.drewN w22 _ = w22; replace BK111 : As_ (w22.heap[gb111]? = some (.cells #[.int .i64 a0_0, .int .i64 a0_1, .int .i64 a0_2, .int .i64 a0_3, .int .i64 a0_4, .string a0_5] 24 (0, 0))) := ⟨by rw [← hq_]; exact (rB_ BK111)⟩; replace HB : As_ (Below w.heap.size w w22) := ⟨by rw [← hq_]; exact (bs_ HB GE111)⟩; clear hq_))
   replace BK111 := aM_ (kD_ BK111.out)
   replace HB := aM_ (b1_ HB.out)
   refine start_ (n := 25) (S := fun w' => w'.cell? ⟨gb111, 0, none⟩ = some (.int .i64 a0_0) ∧ w'.cell? ⟨gb111, 1, none⟩ = some (.int .i64 a0_1) ∧ w'.cell? ⟨gb111, 2, none⟩ = some (.int .i64 a0_2) ∧ w'.cell? ⟨gb111, 3, none⟩ = some (.int .i64 a0_3) ∧ w'.cell? ⟨gb111, 4, none⟩ = some (.int .i64 a0_4) ∧ w'.cell? ⟨gb111, 5, none⟩ = some (.string a0_5)) (ds := []) (bm 25 0) (by kernel_rfl) rfl (by kernel_rfl) ⟨(bC_ BK111.out 0).trans rfl, (bC_ BK111.out 1).trans rfl, (bC_ BK111.out 2).trans rfl, (bC_ BK111.out 3).trans rfl, (bC_ BK111.out 4).trans rfl, (bC_ BK111.out 5).trans rfl⟩ (fun hHeld => ?_); refine with_tabW isa_IsIns.tab4 isa_IsIns.bits4 (fun HT_ HW_ => ?_)
   generalize w22.drew = w24 at BK111 HB hHeld ⊢
   refine seq_ (k := 22) [(0, some 11, false), (2, some 13, false), (3, some 14, true)] (bm 25 13) rfl (seq_of HT_.out HW_.out (by kernel_rfl)) (fun _ _ _ _ _ h => h) hHeld ?_
   repeat (first | (refine SeqOn.pure (v := ?_) (a' := ?_) rfl rfl (Or.inl ⟨by kernel_rfl, ?_⟩) ?_ ?_; rotate_left 2; (focus (intro w'; go_simp; with_reducible rfl)); (focus exact pU_)) | (refine SeqOn.take (v := ?_) (a' := ?_) rfl rfl (Or.inl ⟨by kernel_rfl, ?_⟩) ?_ ?_; rotate_left 2; (focus (rintro w' ⟨s0, s1, s2, s3, s4, s5⟩; go_simp; with_reducible rfl)); (focus exact pU_)))
   refine SeqOn.nil ?_
   refine one_ (i := 1) (N := some 12) (bm 25 15) rfl rfl (one_of HT_.out (by kernel_rfl)) (by decide) (fun K hK => ?_)
   refine gO_ Try.func99 #[.int .i64 t113] rfl ?_
   with_reducible refine (isa_HasD.calls t113 t114 _ A5.out).mono ?_
   rintro e w' ⟨rfl, ⟨nd, rfl⟩⟩
   refine ⟨_, rfl, ?_⟩
   refine hK.out _ _ ⟨(bC_ BK111.out 0).trans rfl, (bC_ BK111.out 1).trans rfl, (bC_ BK111.out 2).trans rfl, (bC_ BK111.out 3).trans rfl, (bC_ BK111.out 4).trans rfl, (bC_ BK111.out 5).trans rfl⟩ (fun hHeld => ?_)
   clear hK K
   refine norm_ (a' := ?_) ?_ ?_
   rotate_left
   ·show Act.put _ (some 12) _ = _
    simp only [Act.put, List.setIfInBounds_toArray, List.set_cons_zero, List.set_cons_succ, i64_w, i32_w]
    rfl
   refine one_ (i := 4) (N := some 15) (bm 25 31) rfl rfl (one_of HT_.out (by kernel_rfl)) (by decide) (fun K hK => ?_)
   refine gO_ Try.func98 #[.bool t114, .int .i64 a0_1] rfl ?_
   with_reducible refine (isa_reg.calls t114 a0_1 true _ A6.out).mono ?_
   rintro e w' ⟨rfl, ⟨nd, rfl⟩⟩
   refine ⟨_, rfl, ?_⟩
   refine hK.out _ _ ⟨(bC_ BK111.out 0).trans rfl, (bC_ BK111.out 1).trans rfl, (bC_ BK111.out 2).trans rfl, (bC_ BK111.out 3).trans rfl, (bC_ BK111.out 4).trans rfl, (bC_ BK111.out 5).trans rfl⟩ (fun hHeld => ?_)
   clear hK K
   refine norm_ (a' := ?_) ?_ ?_
   rotate_left
   ·show Act.put _ (some 15) _ = _
    simp only [Act.put, List.setIfInBounds_toArray, List.set_cons_zero, List.set_cons_succ, i64_w, i32_w]
    rfl
   refine seq_ (k := 16) [(5, some 16, false), (6, some 17, false), (8, some 19, false), (9, some 20, true)] (bm 25 895) rfl (seq_of HT_.out HW_.out (by kernel_rfl)) (fun _ _ _ _ _ h => h) hHeld ?_
   repeat (first | (refine SeqOn.pure (v := ?_) (a' := ?_) rfl rfl (Or.inl ⟨by kernel_rfl, ?_⟩) ?_ ?_; rotate_left 2; (focus (intro w'; go_simp; with_reducible rfl)); (focus exact pU_)) | (refine SeqOn.take (v := ?_) (a' := ?_) rfl rfl (Or.inl ⟨by kernel_rfl, ?_⟩) ?_ ?_; rotate_left 2; (focus (rintro w' ⟨s0, s1, s2, s3, s4, s5⟩; go_simp; with_reducible rfl)); (focus exact pU_)))
   refine SeqOn.nil ?_
   refine one_ (i := 7) (N := some 18) (bm 25 1023) rfl rfl (one_of HT_.out (by kernel_rfl)) (by decide) (fun K hK => ?_)
   refine gO_ Try.func100 #[.int .i64 t113] rfl ?_
   with_reducible refine (isa_HasA.calls k t113 t116 _ A8.out).mono ?_
   rintro e w' ⟨rfl, ⟨nd, rfl⟩⟩
   refine ⟨_, rfl, ?_⟩
   refine hK.out _ _ ⟨(bC_ BK111.out 0).trans rfl, (bC_ BK111.out 1).trans rfl, (bC_ BK111.out 2).trans rfl, (bC_ BK111.out 3).trans rfl, (bC_ BK111.out 4).trans rfl, (bC_ BK111.out 5).trans rfl⟩ (fun hHeld => ?_)
   clear hK K
   refine norm_ (a' := ?_) ?_ ?_
   rotate_left
   ·show Act.put _ (some 18) _ = _
    simp only [Act.put, List.setIfInBounds_toArray, List.set_cons_zero, List.set_cons_succ, i64_w, i32_w]
    rfl
   refine one_ (i := 10) (N := some 21) (bm 25 2047) rfl rfl (one_of HT_.out (by kernel_rfl)) (by decide) (fun K hK => ?_)
   refine gO_ Try.func98 #[.bool t116, .int .i64 a0_2] rfl ?_
   with_reducible refine (isa_reg.calls t116 a0_2 false _ A9.out).mono ?_
   rintro e w' ⟨rfl, ⟨nd, rfl⟩⟩
   refine ⟨_, rfl, ?_⟩
   refine hK.out _ _ ⟨(bC_ BK111.out 0).trans rfl, (bC_ BK111.out 1).trans rfl, (bC_ BK111.out 2).trans rfl, (bC_ BK111.out 3).trans rfl, (bC_ BK111.out 4).trans rfl, (bC_ BK111.out 5).trans rfl⟩ (fun hHeld => ?_)
   clear hK K
   refine norm_ (a' := ?_) ?_ ?_
   rotate_left
   ·show Act.put _ (some 21) _ = _
    simp only [Act.put, List.setIfInBounds_toArray, List.set_cons_zero, List.set_cons_succ, i64_w, i32_w]
    rfl
   refine seq_ (k := 12) [(11, some 22, false), (12, some 23, false)] (bm 25 8191) rfl (seq_of HT_.out HW_.out (by kernel_rfl)) (fun _ _ _ _ _ h => h) hHeld ?_
   repeat (first | (refine SeqOn.pure (v := ?_) (a' := ?_) rfl rfl (Or.inl ⟨by kernel_rfl, ?_⟩) ?_ ?_; rotate_left 2; (focus (intro w'; go_simp; with_reducible rfl)); (focus exact pU_)))
   refine SeqOn.nil ?_
   refine offs_ (k := 7) (a' := ?_) [13, 14, 15, 16, 17] [some 24, some 25, some 26, some 27, some 28] (bm 25 262143) rfl rfl (off_of HT_.out (by kernel_rfl)) (by kernel_rfl) (fun _ _ _ _ _ h => h) ?_ ?_
   rotate_left
   ·simp only [undefs, Act.put, List.setIfInBounds_toArray, List.set_cons_zero, List.set_cons_succ]
    rfl
   refine seq_ (k := 5) [(18, some 29, false), (19, some 30, false)] (bm 25 1048575) rfl (seq_of HT_.out HW_.out (by kernel_rfl)) (fun _ _ _ _ _ h => h) hHeld ?_
   repeat (first | (refine SeqOn.pure (v := ?_) (a' := ?_) rfl rfl (Or.inl ⟨by kernel_rfl, ?_⟩) ?_ ?_; rotate_left 2; (focus (intro w'; go_simp; with_reducible rfl)); (focus exact pU_)))
   refine SeqOn.nil ?_
   refine offs_ (k := 2) (a' := ?_) [20, 21, 22] [some 31, some 32, some 33] (bm 25 8388607) rfl rfl (off_of HT_.out (by kernel_rfl)) (by kernel_rfl) (fun _ _ _ _ _ h => h) ?_ ?_
   rotate_left
   ·simp only [undefs, Act.put, List.setIfInBounds_toArray, List.set_cons_zero, List.set_cons_succ]
    rfl
   refine seq_ (k := 0) [(23, some 34, false), (24, some 2, false)] (bm 25 33554431) rfl (seq_of HT_.out HW_.out (by kernel_rfl)) (fun _ _ _ _ _ h => h) hHeld ?_
   repeat (first | (refine SeqOn.pure (v := ?_) (a' := ?_) rfl rfl (Or.inl ⟨by kernel_rfl, ?_⟩) ?_ ?_; rotate_left 2; (focus (intro w'; go_simp; with_reducible rfl)); (focus exact pU_)))
   refine SeqOn.nil ?_
   refine done_ (done_of HT_.out (by kernel_rfl)) ?_
   try go_wp2
   go_ret
   exact ⟨eR_, bs_ HB GE111⟩
  replace c7 := eF_ c7
  subst c7
  rw [if_neg Bool.false_ne_true] at H
  obtain rfl := oI_ H
  go_enter Try.func63, Try.ntmps63
  try go_wp2_with (first | ((with_reducible refine gate_dst (N := 1) rfl ?_); refine bX_ (N := 1) (cs := #[.int .i64 a0_0, .int .i64 a0_1, .int .i64 a0_2, .int .i64 a0_3, .int .i64 a0_4, .string a0_5]) (t := 24) ?_; intro gb111 hg w25 hbox hb; replace BK111 := aM_ (hbox); replace GW111 := aM_ (gE_ hg (bl_ HB)); replace GE111 := aM_ (gE_ hg (bl_ HB)); replace HB := aM_ (bT_ (bl_ HB) hb); clear hb hbox hg; obtain ⟨hcz26_0, hcz26_1, hcz26_2, hcz26_3, hcz26_4, hcz26_5⟩ := cl6_ BK111.out; obtain ⟨hfz26_0, hfz26_1, hfz26_2, hfz26_3, hfz26_4, hfz26_5⟩ := fz6_ BK111.out) | ((with_reducible refine gC_ (f := 96) rfl ?_); refine gL_ (some 6) Try.func96 #[.int .i64 a0_0] rfl ?_; (with_reducible refine (isa_Is.calls a0_0 true _ A2.out).mono ?_); rintro e w' ⟨rfl, ⟨nd, rfl⟩⟩; refine ⟨_, rfl, ?_⟩) | ((with_reducible refine gC_ (f := 97) rfl ?_); refine gL_ (some 10) Try.func97 #[.int .i64 a0_0] rfl ?_; (with_reducible refine (isa_Shape.calls k a0_0 t113 _ A4.out).mono ?_); rintro e w' ⟨rfl, ⟨nd, rfl⟩⟩; refine ⟨_, rfl, ?_⟩))
  (try (rw [drewN_self w25]; generalize hq_ : World.drewN w25 _ = w25; replace BK111 : As_ (w25.heap[gb111]? = some (.cells #[.int .i64 a0_0, .int .i64 a0_1, .int .i64 a0_2, .int .i64 a0_3, .int .i64 a0_4, .string a0_5] 24 (0, 0))) := ⟨by rw [← hq_]; exact (rB_ BK111)⟩; replace HB : As_ (Below w.heap.size w w25) := ⟨by rw [← hq_]; exact (bs_ HB GE111)⟩; clear hq_))
  replace BK111 := aM_ (kD_ BK111.out)
  replace HB := aM_ (b1_ HB.out)
  refine start_ (n := 25) (S := fun w' => w'.cell? ⟨gb111, 0, none⟩ = some (.int .i64 a0_0) ∧ w'.cell? ⟨gb111, 1, none⟩ = some (.int .i64 a0_1) ∧ w'.cell? ⟨gb111, 2, none⟩ = some (.int .i64 a0_2) ∧ w'.cell? ⟨gb111, 3, none⟩ = some (.int .i64 a0_3) ∧ w'.cell? ⟨gb111, 4, none⟩ = some (.int .i64 a0_4) ∧ w'.cell? ⟨gb111, 5, none⟩ = some (.string a0_5)) (ds := []) (bm 25 0) (by kernel_rfl) rfl (by kernel_rfl) ⟨(bC_ BK111.out 0).trans rfl, (bC_ BK111.out 1).trans rfl, (bC_ BK111.out 2).trans rfl, (bC_ BK111.out 3).trans rfl, (bC_ BK111.out 4).trans rfl, (bC_ BK111.out 5).trans rfl⟩ (fun hHeld => ?_); refine with_tabW isa_IsIns.tab4 isa_IsIns.bits4 (fun HT_ HW_ => ?_)
  generalize w25.drew = w27 at BK111 HB hHeld ⊢
  refine seq_ (k := 22) [(0, some 11, false), (2, some 13, false), (3, some 14, true)] (bm 25 13) rfl (seq_of HT_.out HW_.out (by kernel_rfl)) (fun _ _ _ _ _ h => h) hHeld ?_
  repeat (first | (refine SeqOn.pure (v := ?_) (a' := ?_) rfl rfl (Or.inl ⟨by kernel_rfl, ?_⟩) ?_ ?_; rotate_left 2; (focus (intro w'; go_simp; with_reducible rfl)); (focus exact pU_)) | (refine SeqOn.take (v := ?_) (a' := ?_) rfl rfl (Or.inl ⟨by kernel_rfl, ?_⟩) ?_ ?_; rotate_left 2; (focus (rintro w' ⟨s0, s1, s2, s3, s4, s5⟩; go_simp; with_reducible rfl)); (focus exact pU_)))
  refine SeqOn.nil ?_
  refine one_ (i := 1) (N := some 12) (bm 25 15) rfl rfl (one_of HT_.out (by kernel_rfl)) (by decide) (fun K hK => ?_)
  refine gO_ Try.func99 #[.int .i64 t113] rfl ?_
  with_reducible refine (isa_HasD.calls t113 t114 _ A5.out).mono ?_
  rintro e w' ⟨rfl, ⟨nd, rfl⟩⟩
  refine ⟨_, rfl, ?_⟩
  refine hK.out _ _ ⟨(bC_ BK111.out 0).trans rfl, (bC_ BK111.out 1).trans rfl, (bC_ BK111.out 2).trans rfl, (bC_ BK111.out 3).trans rfl, (bC_ BK111.out 4).trans rfl, (bC_ BK111.out 5).trans rfl⟩ (fun hHeld => ?_)
  clear hK K
  refine norm_ (a' := ?_) ?_ ?_
  rotate_left
  ·show Act.put _ (some 12) _ = _
   simp only [Act.put, List.setIfInBounds_toArray, List.set_cons_zero, List.set_cons_succ, i64_w, i32_w]
   rfl
  refine one_ (i := 4) (N := some 15) (bm 25 31) rfl rfl (one_of HT_.out (by kernel_rfl)) (by decide) (fun K hK => ?_)
  refine gO_ Try.func98 #[.bool t114, .int .i64 a0_1] rfl ?_
  with_reducible refine (isa_reg.calls t114 a0_1 false _ A6.out).mono ?_
  rintro e w' ⟨rfl, ⟨nd, rfl⟩⟩
  refine ⟨_, rfl, ?_⟩
  refine hK.out _ _ ⟨(bC_ BK111.out 0).trans rfl, (bC_ BK111.out 1).trans rfl, (bC_ BK111.out 2).trans rfl, (bC_ BK111.out 3).trans rfl, (bC_ BK111.out 4).trans rfl, (bC_ BK111.out 5).trans rfl⟩ (fun hHeld => ?_)
  clear hK K
  refine norm_ (a' := ?_) ?_ ?_
  rotate_left
  ·show Act.put _ (some 15) _ = _
   simp only [Act.put, List.setIfInBounds_toArray, List.set_cons_zero, List.set_cons_succ, i64_w, i32_w]
   rfl
  refine pure_ (i := 5) (N := some 16) (v := ?_) (a' := ?_) (bm 25 63) rfl rfl (any_of HT_.out (by kernel_rfl)) (fun _ _ _ h => h) (Or.inl ⟨by rfl, ?_⟩) ?_ ?_
  rotate_left
  ·intro w'
   go_simp
   with_reducible rfl
  rotate_left
  ·simp only [Act.put, List.setIfInBounds_toArray, List.set_cons_zero, List.set_cons_succ, i64_w, i32_w]
   rfl
  refine offs_ (k := 14) (a' := ?_) [6, 7, 8, 9, 10] [some 17, some 18, some 19, some 20, some 21] (bm 25 2047) rfl rfl (off_of HT_.out (by kernel_rfl)) (by kernel_rfl) (fun _ _ _ _ _ h => h) ?_ ?_
  rotate_left
  ·simp only [undefs, Act.put, List.setIfInBounds_toArray, List.set_cons_zero, List.set_cons_succ]
   rfl
  refine seq_ (k := 12) [(11, some 22, false), (12, some 23, false)] (bm 25 8191) rfl (seq_of HT_.out HW_.out (by kernel_rfl)) (fun _ _ _ _ _ h => h) hHeld ?_
  repeat (first | (refine SeqOn.pure (v := ?_) (a' := ?_) rfl rfl (Or.inl ⟨by kernel_rfl, ?_⟩) ?_ ?_; rotate_left 2; (focus (intro w'; go_simp; with_reducible rfl)); (focus exact pU_)))
  refine SeqOn.nil ?_
  refine offs_ (k := 7) (a' := ?_) [13, 14, 15, 16, 17] [some 24, some 25, some 26, some 27, some 28] (bm 25 262143) rfl rfl (off_of HT_.out (by kernel_rfl)) (by kernel_rfl) (fun _ _ _ _ _ h => h) ?_ ?_
  rotate_left
  ·simp only [undefs, Act.put, List.setIfInBounds_toArray, List.set_cons_zero, List.set_cons_succ]
   rfl
  refine seq_ (k := 5) [(18, some 29, false), (19, some 30, false)] (bm 25 1048575) rfl (seq_of HT_.out HW_.out (by kernel_rfl)) (fun _ _ _ _ _ h => h) hHeld ?_
  repeat (first | (refine SeqOn.pure (v := ?_) (a' := ?_) rfl rfl (Or.inl ⟨by kernel_rfl, ?_⟩) ?_ ?_; rotate_left 2; (focus (intro w'; go_simp; with_reducible rfl)); (focus exact pU_)))
  refine SeqOn.nil ?_
  refine offs_ (k := 2) (a' := ?_) [20, 21, 22] [some 31, some 32, some 33] (bm 25 8388607) rfl rfl (off_of HT_.out (by kernel_rfl)) (by kernel_rfl) (fun _ _ _ _ _ h => h) ?_ ?_
  rotate_left
  ·simp only [undefs, Act.put, List.setIfInBounds_toArray, List.set_cons_zero, List.set_cons_succ]
   rfl
  refine seq_ (k := 0) [(23, some 34, false), (24, some 2, false)] (bm 25 33554431) rfl (seq_of HT_.out HW_.out (by kernel_rfl)) (fun _ _ _ _ _ h => h) hHeld ?_
  repeat (first | (refine SeqOn.pure (v := ?_) (a' := ?_) rfl rfl (Or.inl ⟨by kernel_rfl, ?_⟩) ?_ ?_; rotate_left 2; (focus (intro w'; go_simp; with_reducible rfl)); (focus exact pU_)))
  refine SeqOn.nil ?_
  refine done_ (done_of HT_.out (by kernel_rfl)) ?_
  try go_wp2
  go_ret
  exact ⟨eR_, bs_ HB GE111⟩
 replace c3 := eF_ c3
 subst c3
 rw [if_neg Bool.false_ne_true] at H
 obtain rfl := oI_ H
 go_enter Try.func63, Try.ntmps63
 go_wp2_with (first | ((with_reducible refine gate_dst (N := 1) rfl ?_); refine bX_ (N := 1) (cs := #[.int .i64 a0_0, .int .i64 a0_1, .int .i64 a0_2, .int .i64 a0_3, .int .i64 a0_4, .string a0_5]) (t := 24) ?_; intro gb111 hg w28 hbox hb; replace BK111 := aM_ (hbox); replace GW111 := aM_ (gE_ hg (bl_ HB)); replace GE111 := aM_ (gE_ hg (bl_ HB)); replace HB := aM_ (bT_ (bl_ HB) hb); clear hb hbox hg; obtain ⟨hcz29_0, hcz29_1, hcz29_2, hcz29_3, hcz29_4, hcz29_5⟩ := cl6_ BK111.out; obtain ⟨hfz29_0, hfz29_1, hfz29_2, hfz29_3, hfz29_4, hfz29_5⟩ := fz6_ BK111.out) | ((with_reducible refine gC_ (f := 96) rfl ?_); refine gL_ (some 6) Try.func96 #[.int .i64 a0_0] rfl ?_; (with_reducible refine (isa_Is.calls a0_0 false _ A2.out).mono ?_); rintro e w' ⟨rfl, ⟨nd, rfl⟩⟩; refine ⟨_, rfl, ?_⟩))
 go_ret
 exact ⟨eR_, bs_ HB GE111⟩
def isa_Ends.f (a0 : Int) : Option (Bool) := if a0 ≥ 28 then (some (decide (a0 ≤ 33))) else (some false)
theorem isa_Ends.calls (a0 : Int) (r : Bool) (w : World) (h : isa_Ends.f a0 = some r) :
    Calls Try.prog 64 #[.int .i64 a0] w fun e w' => e = .returned (.bool r) ∧ Dr_ w w' := by
 have H : (if a0 ≥ 28 then (some (decide (a0 ≤ 33))) else (some false)) = some r := h
 clear h
 by_cases c2 : a0 ≥ 28
 ·rw [if_pos c2] at H
  have c2b0 := dE_ c2
  clear c2
  obtain rfl := oI_ H
  go_enter Try.func64, Try.ntmps64
  go_wp2
  go_ret
  exact ⟨eQ_, dR_⟩
 rw [if_neg c2] at H
 have c2b0 := dF_ c2
 clear c2
 obtain rfl := oI_ H
 go_enter Try.func64, Try.ntmps64
 go_wp2
 go_ret
 exact ⟨eQ_, dR_⟩
def block_Plain.f (k : Nat) (a0_0 : Int) (a0_1 : Int) (a0_2 : Int) (a0_3 : Int) (a0_4 : Int) (a0_5 : ByteArray) : Option (Bool) := (isa_IsIns.f k a0_0 a0_1 a0_2 a0_3 a0_4 a0_5).bind fun t122 => (if t122 = true then ((isa_Ends.f a0_0).bind fun t123 => (if t123 = true then (some false) else (some (a0_0 != 0)))) else (some false))
theorem block_Plain.mono : ∀ a0 a1 a2 a3 a4 a5 k, LeO (block_Plain.f k a0 a1 a2 a3 a4 a5) (block_Plain.f (k + 1) a0 a1 a2 a3 a4 a5) := by
 intro a0 a1 a2 a3 a4 a5 k
 unfold block_Plain.f
 repeat' first
  | (with_reducible exact isa_IsIns.mono _ _ _ _ _ _ _)
  | (with_reducible exact LeO.refl _)
  | (with_reducible exact LeO.none _)
  | (with_reducible refine LeO.ite ?_ ?_)
  | (with_reducible refine LeO.bind ?_ (fun _ => ?_))
  | exact LeO.none _
  | refine LeO.ite ?_ ?_
  | refine LeO.bind ?_ (fun _ => ?_)
theorem block_Plain.calls (k : Nat) (a0_0 : Int) (a0_1 : Int) (a0_2 : Int) (a0_3 : Int) (a0_4 : Int) (a0_5 : ByteArray) (r : Bool) (w : World) (h : block_Plain.f k a0_0 a0_1 a0_2 a0_3 a0_4 a0_5 = some r) :
    Calls Try.prog 90 #[.agg #[.int .i64 a0_0, .int .i64 a0_1, .int .i64 a0_2, .int .i64 a0_3, .int .i64 a0_4, .string a0_5]] w fun e w' => e = .returned (.bool r) ∧ Below w.heap.size w w' := by
 have hu24 := Try.underlying24
 have HB := aM_ (Below.refl w.heap.size w)
 have H : ((isa_IsIns.f k a0_0 a0_1 a0_2 a0_3 a0_4 a0_5).bind fun t122 => (if t122 = true then ((isa_Ends.f a0_0).bind fun t123 => (if t123 = true then (some false) else (some (a0_0 != 0)))) else (some false))) = some r := h
 clear h
 replace H := oB_ H
 obtain ⟨t122, A2, H⟩ := H
 by_cases c3 : t122 = true
 ·subst c3
  rw [if_pos rfl] at H
  replace H := oB_ H
  obtain ⟨t123, A4, H⟩ := H
  by_cases c5 : t123 = true
  ·subst c5
   rw [if_pos rfl] at H
   obtain rfl := oI_ H
   go_enter Try.func90, Try.ntmps90
   go_wp2_with (first | ((with_reducible refine gate_dst (N := 1) rfl ?_); refine bX_ (N := 1) (cs := #[.int .i64 a0_0, .int .i64 a0_1, .int .i64 a0_2, .int .i64 a0_3, .int .i64 a0_4, .string a0_5]) (t := 24) ?_; intro gb121 hg w6 hbox hb; replace BK121 := aM_ (hbox); replace GW121 := aM_ (gE_ hg (bl_ HB)); replace GE121 := aM_ (gE_ hg (bl_ HB)); replace HB := aM_ (bT_ (bl_ HB) hb); clear hb hbox hg; obtain ⟨hcz7_0, hcz7_1, hcz7_2, hcz7_3, hcz7_4, hcz7_5⟩ := cl6_ BK121.out; obtain ⟨hfz7_0, hfz7_1, hfz7_2, hfz7_3, hfz7_4, hfz7_5⟩ := fz6_ BK121.out) | ((with_reducible refine gC_ (f := 63) rfl ?_); refine gL_ (some 4) Try.func63 #[.agg #[.int .i64 a0_0, .int .i64 a0_1, .int .i64 a0_2, .int .i64 a0_3, .int .i64 a0_4, .string a0_5]] rfl ?_; (with_reducible refine (isa_IsIns.calls k a0_0 a0_1 a0_2 a0_3 a0_4 a0_5 true _ A2.out).mono ?_); rintro e w8 ⟨rfl, hb⟩; refine ⟨_, rfl, ?_⟩; replace BK121 := aM_ (kB_ (rB_ BK121) hb); replace HB := aM_ (bT_ (bs_ HB GE121) hb); obtain ⟨hcz9_0, hcz9_1, hcz9_2, hcz9_3, hcz9_4, hcz9_5⟩ := cl6_ BK121.out; obtain ⟨hfz9_0, hfz9_1, hfz9_2, hfz9_3, hfz9_4, hfz9_5⟩ := fz6_ BK121.out) | (go_at_call 64; (with_reducible refine (isa_Ends.calls a0_0 true _ A4.out).mono ?_); rintro e w' ⟨rfl, ⟨nd, rfl⟩⟩))
   go_ret
   exact ⟨eR_, bs_ HB GE121⟩
  replace c5 := eF_ c5
  subst c5
  rw [if_neg Bool.false_ne_true] at H
  obtain rfl := oI_ H
  go_enter Try.func90, Try.ntmps90
  go_wp2_with (first | ((with_reducible refine gate_dst (N := 1) rfl ?_); refine bX_ (N := 1) (cs := #[.int .i64 a0_0, .int .i64 a0_1, .int .i64 a0_2, .int .i64 a0_3, .int .i64 a0_4, .string a0_5]) (t := 24) ?_; intro gb121 hg w10 hbox hb; replace BK121 := aM_ (hbox); replace GW121 := aM_ (gE_ hg (bl_ HB)); replace GE121 := aM_ (gE_ hg (bl_ HB)); replace HB := aM_ (bT_ (bl_ HB) hb); clear hb hbox hg; obtain ⟨hcz11_0, hcz11_1, hcz11_2, hcz11_3, hcz11_4, hcz11_5⟩ := cl6_ BK121.out; obtain ⟨hfz11_0, hfz11_1, hfz11_2, hfz11_3, hfz11_4, hfz11_5⟩ := fz6_ BK121.out) | ((with_reducible refine gC_ (f := 63) rfl ?_); refine gL_ (some 4) Try.func63 #[.agg #[.int .i64 a0_0, .int .i64 a0_1, .int .i64 a0_2, .int .i64 a0_3, .int .i64 a0_4, .string a0_5]] rfl ?_; (with_reducible refine (isa_IsIns.calls k a0_0 a0_1 a0_2 a0_3 a0_4 a0_5 true _ A2.out).mono ?_); rintro e w12 ⟨rfl, hb⟩; refine ⟨_, rfl, ?_⟩; replace BK121 := aM_ (kB_ (rB_ BK121) hb); replace HB := aM_ (bT_ (bs_ HB GE121) hb); obtain ⟨hcz13_0, hcz13_1, hcz13_2, hcz13_3, hcz13_4, hcz13_5⟩ := cl6_ BK121.out; obtain ⟨hfz13_0, hfz13_1, hfz13_2, hfz13_3, hfz13_4, hfz13_5⟩ := fz6_ BK121.out) | (go_at_call 64; (with_reducible refine (isa_Ends.calls a0_0 false _ A4.out).mono ?_); rintro e w' ⟨rfl, ⟨nd, rfl⟩⟩))
  go_ret
  exact ⟨eR_, bs_ HB GE121⟩
 replace c3 := eF_ c3
 subst c3
 rw [if_neg Bool.false_ne_true] at H
 obtain rfl := oI_ H
 go_enter Try.func90, Try.ntmps90
 go_wp2_with (first | ((with_reducible refine gate_dst (N := 1) rfl ?_); refine bX_ (N := 1) (cs := #[.int .i64 a0_0, .int .i64 a0_1, .int .i64 a0_2, .int .i64 a0_3, .int .i64 a0_4, .string a0_5]) (t := 24) ?_; intro gb121 hg w14 hbox hb; replace BK121 := aM_ (hbox); replace GW121 := aM_ (gE_ hg (bl_ HB)); replace GE121 := aM_ (gE_ hg (bl_ HB)); replace HB := aM_ (bT_ (bl_ HB) hb); clear hb hbox hg; obtain ⟨hcz15_0, hcz15_1, hcz15_2, hcz15_3, hcz15_4, hcz15_5⟩ := cl6_ BK121.out; obtain ⟨hfz15_0, hfz15_1, hfz15_2, hfz15_3, hfz15_4, hfz15_5⟩ := fz6_ BK121.out) | ((with_reducible refine gC_ (f := 63) rfl ?_); refine gL_ (some 4) Try.func63 #[.agg #[.int .i64 a0_0, .int .i64 a0_1, .int .i64 a0_2, .int .i64 a0_3, .int .i64 a0_4, .string a0_5]] rfl ?_; (with_reducible refine (isa_IsIns.calls k a0_0 a0_1 a0_2 a0_3 a0_4 a0_5 false _ A2.out).mono ?_); rintro e w16 ⟨rfl, hb⟩; refine ⟨_, rfl, ?_⟩; replace BK121 := aM_ (kB_ (rB_ BK121) hb); replace HB := aM_ (bT_ (bs_ HB GE121) hb)))
 go_ret
 exact ⟨eR_, bs_ HB GE121⟩
def dag_May_1.f (k : Nat) (a0_0 : Int) (a0_1 : Int) (a0_2 : Int) (a0_3 : Int) (a0_4 : Int) (a0_5 : ByteArray) : Option (Bool) := (block_Plain.f k a0_0 a0_1 a0_2 a0_3 a0_4 a0_5).bind fun t125 => (some (!t125))
theorem dag_May_1.mono : ∀ a0 a1 a2 a3 a4 a5 k, LeO (dag_May_1.f k a0 a1 a2 a3 a4 a5) (dag_May_1.f (k + 1) a0 a1 a2 a3 a4 a5) := by
 intro a0 a1 a2 a3 a4 a5 k
 unfold dag_May_1.f
 repeat' first
  | (with_reducible exact block_Plain.mono _ _ _ _ _ _ _)
  | (with_reducible exact LeO.refl _)
  | (with_reducible exact LeO.none _)
  | (with_reducible refine LeO.ite ?_ ?_)
  | (with_reducible refine LeO.bind ?_ (fun _ => ?_))
  | exact LeO.none _
  | refine LeO.ite ?_ ?_
  | refine LeO.bind ?_ (fun _ => ?_)
theorem dag_May_1.calls (k : Nat) (a0_0 : Int) (a0_1 : Int) (a0_2 : Int) (a0_3 : Int) (a0_4 : Int) (a0_5 : ByteArray) (r : Bool) (w : World) (h : dag_May_1.f k a0_0 a0_1 a0_2 a0_3 a0_4 a0_5 = some r) :
    Calls Try.prog 89 #[.agg #[.int .i64 a0_0, .int .i64 a0_1, .int .i64 a0_2, .int .i64 a0_3, .int .i64 a0_4, .string a0_5]] w fun e w' => e = .returned (.bool r) ∧ Below w.heap.size w w' := by
 have hu24 := Try.underlying24
 have HB := aM_ (Below.refl w.heap.size w)
 have H : ((block_Plain.f k a0_0 a0_1 a0_2 a0_3 a0_4 a0_5).bind fun t125 => (some (!t125))) = some r := h
 clear h
 replace H := oB_ H
 obtain ⟨t125, A2, H⟩ := H
 obtain rfl := oI_ H
 go_enter Try.func89, Try.ntmps89
 go_wp2_with (first | ((with_reducible refine gate_dst (N := 1) rfl ?_); refine bX_ (N := 1) (cs := #[.int .i64 a0_0, .int .i64 a0_1, .int .i64 a0_2, .int .i64 a0_3, .int .i64 a0_4, .string a0_5]) (t := 24) ?_; intro gb124 hg w3 hbox hb; replace BK124 := aM_ (hbox); replace GW124 := aM_ (gE_ hg (bl_ HB)); replace GE124 := aM_ (gE_ hg (bl_ HB)); replace HB := aM_ (bT_ (bl_ HB) hb); clear hb hbox hg; obtain ⟨hcz4_0, hcz4_1, hcz4_2, hcz4_3, hcz4_4, hcz4_5⟩ := cl6_ BK124.out; obtain ⟨hfz4_0, hfz4_1, hfz4_2, hfz4_3, hfz4_4, hfz4_5⟩ := fz6_ BK124.out) | ((with_reducible refine gC_ (f := 90) rfl ?_); refine gL_ (some 4) Try.func90 #[.agg #[.int .i64 a0_0, .int .i64 a0_1, .int .i64 a0_2, .int .i64 a0_3, .int .i64 a0_4, .string a0_5]] rfl ?_; (with_reducible refine (block_Plain.calls k a0_0 a0_1 a0_2 a0_3 a0_4 a0_5 t125 _ A2.out).mono ?_); rintro e w5 ⟨rfl, hb⟩; refine ⟨_, rfl, ?_⟩; replace BK124 := aM_ (kB_ (rB_ BK124) hb); replace HB := aM_ (bT_ (bs_ HB GE124) hb)))
 go_ret
 exact ⟨eR_, bs_ HB GE124⟩
def aI89_114089.l0 : Nat → List (S24) → Int → Int → Option (Int)
  | 0, _, _, _ => none
  | k + 1, x0, x7, x8 => if x8 < x7 then (if 0 ≤ x8 then (if x8 < (x0.length : Int) then ((dag_May_1.f k ((J24 x0 x8).f0) ((J24 x0 x8).f1) ((J24 x0 x8).f2) ((J24 x0 x8).f3) ((J24 x0 x8).f4) ((J24 x0 x8).f5)).bind fun t127 => (if t127 = true then (some x8) else (aI89_114089.l0 k x0 x7 (wrap64 (x8 + 1))))) else (none)) else (none)) else (some (-1))
def aI89_114089.f (k : Nat) (l0 : List (S24))  : Option (Int) := aI89_114089.l0 k l0 (l0.length : Int) 0
theorem aI89_114089.mono_l : ∀ k, (∀ y0 y1 y2, LeO (aI89_114089.l0 k y0 y1 y2) (aI89_114089.l0 (k + 1) y0 y1 y2))
  | 0 => fun _ _ _ r h => by simp [aI89_114089.l0] at h
  | k + 1 => by
    have ih0 := aI89_114089.mono_l k
    · intro y0 y1 y2
      unfold aI89_114089.l0
      repeat' first
      | (with_reducible exact ih0 _ _ _)
      | (with_reducible exact dag_May_1.mono _ _ _ _ _ _ _)
      | (with_reducible exact LeO.refl _)
      | (with_reducible exact LeO.none _)
      | (with_reducible refine LeO.ite ?_ ?_)
      | (with_reducible refine LeO.bind ?_ (fun _ => ?_))
      | exact LeO.none _
      | refine LeO.ite ?_ ?_
      | refine LeO.bind ?_ (fun _ => ?_)
theorem aI89_114089.mono : ∀ a0 k, LeO (aI89_114089.f k a0) (aI89_114089.f (k + 1) a0) := by
 intro a0 k
 have ih0 := aI89_114089.mono_l k
 unfold aI89_114089.f
 repeat' first
  | (with_reducible exact ih0 _ _ _)
  | (with_reducible exact dag_May_1.mono _ _ _ _ _ _ _)
  | (with_reducible exact LeO.refl _)
  | (with_reducible exact LeO.none _)
  | (with_reducible refine LeO.ite ?_ ?_)
  | (with_reducible refine LeO.bind ?_ (fun _ => ?_))
  | exact LeO.none _
  | refine LeO.ite ?_ ?_
  | refine LeO.bind ?_ (fun _ => ?_)
theorem aI89_114089.calls (k : Nat) (A0 : Option Addr) (c0 : Nat) (l0 : List (S24))  (r : Int) (w : World) (hr0 : Kd.C k24 w A0 l0.length l0) (hc0 : l0.length ≤ c0) (h : aI89_114089.f k l0 = some r) :
    Calls Try.prog 114 #[.slice A0 l0.length c0, .func (.func 89) #[] #[]] w fun e w' => e = .returned (.int .i64 r) ∧ Below w.heap.size w w' := by
 have hu24 := Try.underlying24
 have HR0 := aM_ hr0
 have HC0 := aM_ hc0
 clear hr0 hc0
 have HB := aM_ (Below.refl w.heap.size w)
 have H : (aI89_114089.l0 k l0 (l0.length : Int) 0) = some r := h
 clear h
 replace H := aM_ H
 go_enter Try.func114, Try.ntmps114
 go_wp2
 go_loopg [8] k (fun kq v8 w' => ∃ (x8_1 : Int), v8 = .int .i64 x8_1 ∧ As_ (aI89_114089.l0 kq l0 (l0.length : Int) x8_1 = some r) ∧ As_ (kq ≤ k) ∧ As_ (Below w.heap.size w w'))
 case atStart => exact ⟨(0), eQ_, H, ⟨Nat.le_refl _⟩, ⟨bl_ HB⟩⟩
 case round =>
  clear H
  obtain ⟨x8_1, rfl, HA, HK1, HB⟩ := hrel
  cases gk with
  | zero => exact absurd HA.out (by simp [aI89_114089.l0])
  | succ k1 =>
   have H := HA.out
   clear HA
   simp only [aI89_114089.l0] at H
   by_cases c3 : x8_1 < (l0.length : Int)
   ·rw [if_pos c3] at H
    have c3b0 := dE_ c3
    clear c3
    by_cases c4 : 0 ≤ x8_1
    ·rw [if_pos c4] at H
     have c4b0 := dE_ c4
     clear c4
     by_cases c5 : x8_1 < (l0.length : Int)
     ·rw [if_pos c5] at H
      have c5b0 := dE_ c5
      clear c5
      replace H := oB_ H
      obtain ⟨t127, A6, H⟩ := H
      by_cases c7 : t127 = true
      ·subst c7
       rw [if_pos rfl] at H
       obtain rfl := oI_ H
       have p126 : 0 ≤ (x8_1 : Int) := oD_
       have q126 : x8_1 < (l0.length : Int) := oD_
       obtain ⟨ad126, e126, hx126_0, hx126_1, hx126_2, hx126_3, hx126_4, hx126_5⟩ := at_T24 HR0.out x8_1 p126 q126
       cases e126
       replace hx126_0 := hC_ HB hx126_0
       replace hx126_1 := hC_ HB hx126_1
       replace hx126_2 := hC_ HB hx126_2
       replace hx126_3 := hC_ HB hx126_3
       replace hx126_4 := hC_ HB hx126_4
       replace hx126_5 := hC_ HB hx126_5
       replace p126 := eq_true p126
       replace q126 := eq_true q126
       go_wp2_with (first | (go_at_call 89; (with_reducible refine (dag_May_1.calls k1 ((J24 l0 x8_1).f0) ((J24 l0 x8_1).f1) ((J24 l0 x8_1).f2) ((J24 l0 x8_1).f3) ((J24 l0 x8_1).f4) ((J24 l0 x8_1).f5) true _ A6.out).mono ?_); rintro e w8 ⟨rfl, hb⟩; replace HB := aM_ (bT_ (bl_ HB) hb)))
       go_ret
       exact ⟨eR_, bl_ HB⟩
      replace c7 := eF_ c7
      subst c7
      rw [if_neg Bool.false_ne_true] at H
      replace H := aM_ H
      have p126 : 0 ≤ (x8_1 : Int) := oD_
      have q126 : x8_1 < (l0.length : Int) := oD_
      obtain ⟨ad126, e126, hx126_0, hx126_1, hx126_2, hx126_3, hx126_4, hx126_5⟩ := at_T24 HR0.out x8_1 p126 q126
      cases e126
      replace hx126_0 := hC_ HB hx126_0
      replace hx126_1 := hC_ HB hx126_1
      replace hx126_2 := hC_ HB hx126_2
      replace hx126_3 := hC_ HB hx126_3
      replace hx126_4 := hC_ HB hx126_4
      replace hx126_5 := hC_ HB hx126_5
      replace p126 := eq_true p126
      replace q126 := eq_true q126
      go_wp2_with (first | (go_at_call 89; (with_reducible refine (dag_May_1.calls k1 ((J24 l0 x8_1).f0) ((J24 l0 x8_1).f1) ((J24 l0 x8_1).f2) ((J24 l0 x8_1).f3) ((J24 l0 x8_1).f4) ((J24 l0 x8_1).f5) false _ A6.out).mono ?_); rintro e w9 ⟨rfl, hb⟩; replace HB := aM_ (bT_ (bl_ HB) hb)))
      go_roundg k1
      case measure => have := HK1.out; omega
      case rel => exact ⟨(wrap64 (x8_1 + 1)), eQ_, H, ⟨by have := HK1.out; omega⟩, ⟨bl_ HB⟩⟩
     rw [if_neg c5] at H
     exact absurd H (by simp)
    rw [if_neg c4] at H
    exact absurd H (by simp)
   rw [if_neg c3] at H
   have c3b0 := dF_ c3
   clear c3
   obtain rfl := oI_ H
   go_wp2
   go_ret
   exact ⟨eR_, bl_ HB⟩
def aI89_88089.f (k : Nat) (l0 : List (S24))  : Option (Bool) := (aI89_114089.f k l0).bind fun t128 => (some (decide (t128 ≥ 0)))
theorem aI89_88089.mono : ∀ a0 k, LeO (aI89_88089.f k a0) (aI89_88089.f (k + 1) a0) := by
 intro a0 k
 unfold aI89_88089.f
 repeat' first
  | (with_reducible exact aI89_114089.mono _ _)
  | (with_reducible exact LeO.refl _)
  | (with_reducible exact LeO.none _)
  | (with_reducible refine LeO.ite ?_ ?_)
  | (with_reducible refine LeO.bind ?_ (fun _ => ?_))
  | exact LeO.none _
  | refine LeO.ite ?_ ?_
  | refine LeO.bind ?_ (fun _ => ?_)
theorem aI89_88089.calls (k : Nat) (A0 : Option Addr) (c0 : Nat) (l0 : List (S24))  (r : Bool) (w : World) (hr0 : Kd.C k24 w A0 l0.length l0) (hc0 : l0.length ≤ c0) (h : aI89_88089.f k l0 = some r) :
    Calls Try.prog 88 #[.slice A0 l0.length c0, .func (.func 89) #[] #[]] w fun e w' => e = .returned (.bool r) ∧ Below w.heap.size w w' := by
 have HR0 := aM_ hr0
 have HC0 := aM_ hc0
 clear hr0 hc0
 have HB := aM_ (Below.refl w.heap.size w)
 have H : ((aI89_114089.f k l0).bind fun t128 => (some (decide (t128 ≥ 0)))) = some r := h
 clear h
 replace H := oB_ H
 obtain ⟨t128, A3, H⟩ := H
 obtain rfl := oI_ H
 go_enter Try.func88, Try.ntmps88
 go_wp2_with (first | ((with_reducible refine gC_ (f := 114) rfl ?_); refine gL_ (some 7) Try.func114 #[.slice A0 l0.length c0, .func (.func 89) #[] #[]] rfl ?_; (with_reducible refine (aI89_114089.calls k _ _ l0  t128 _ ?side1 ?side2 A3.out).mono ?_); (case side1 => exact rC_ HR0.out); (case side2 => exact HC0.out); rintro e w4 ⟨rfl, hb⟩; refine ⟨_, rfl, ?_⟩; replace HB := aM_ (bT_ (bl_ HB) hb)))
 go_ret
 exact ⟨eR_, bl_ HB⟩
def dag_May.f (k : Nat) (l0 : List (S24)) : Option (Bool) := if (l0.length : Int) ≤ 200 then ((aI89_88089.f k l0).bind fun t129 => (some (!t129))) else (some false)
theorem dag_May.mono : ∀ a0 k, LeO (dag_May.f k a0) (dag_May.f (k + 1) a0) := by
 intro a0 k
 unfold dag_May.f
 repeat' first
  | (with_reducible exact aI89_88089.mono _ _)
  | (with_reducible exact LeO.refl _)
  | (with_reducible exact LeO.none _)
  | (with_reducible refine LeO.ite ?_ ?_)
  | (with_reducible refine LeO.bind ?_ (fun _ => ?_))
  | exact LeO.none _
  | refine LeO.ite ?_ ?_
  | refine LeO.bind ?_ (fun _ => ?_)
theorem dag_May.calls (k : Nat) (A0 : Option Addr) (c0 : Nat) (l0 : List (S24)) (r : Bool) (w : World) (hr0 : Kd.C k24 w A0 l0.length l0) (hc0 : l0.length ≤ c0) (h : dag_May.f k l0 = some r) :
    Calls Try.prog 55 #[.slice A0 l0.length c0] w fun e w' => e = .returned (.bool r) ∧ Below w.heap.size w w' := by
 have HR0 := aM_ hr0
 have HC0 := aM_ hc0
 clear hr0 hc0
 have HB := aM_ (Below.refl w.heap.size w)
 have H : (if (l0.length : Int) ≤ 200 then ((aI89_88089.f k l0).bind fun t129 => (some (!t129))) else (some false)) = some r := h
 clear h
 by_cases c2 : (l0.length : Int) ≤ 200
 ·rw [if_pos c2] at H
  have c2b0 := dE_ c2
  have c2b1 : decide (l0.length ≤ 200) = true := decide_eq_true (by omega)
  clear c2
  replace H := oB_ H
  obtain ⟨t129, A3, H⟩ := H
  obtain rfl := oI_ H
  go_enter Try.func55, Try.ntmps55
  go_wp2_with (first | (go_at_call 88; (with_reducible refine (aI89_88089.calls k _ _ l0  t129 _ ?side1 ?side2 A3.out).mono ?_); (case side1 => exact rC_ HR0.out); (case side2 => exact HC0.out); rintro e w4 ⟨rfl, hb⟩; replace HB := aM_ (bT_ (bl_ HB) hb)))
  go_ret
  exact ⟨eR_, bl_ HB⟩
 rw [if_neg c2] at H
 have c2b0 := dF_ c2
 have c2b1 : decide (l0.length ≤ 200) = false := decide_eq_false (by omega)
 clear c2
 obtain rfl := oI_ H
 go_enter Try.func55, Try.ntmps55
 go_wp2
 go_ret
 exact ⟨eR_, bl_ HB⟩
end Go.Proofs.Ytibfkkjkahpobaa.PDag
