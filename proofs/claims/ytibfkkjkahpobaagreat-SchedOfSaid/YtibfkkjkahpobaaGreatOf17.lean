import Derived.Test.YtibfkkjkahpobaaGreatOf15
import Derived.Test.YtibfkkjkahpobaaGreatOf16
set_option linter.unusedVariables false
set_option linter.unusedSimpArgs false
set_option maxHeartbeats 8000000
set_option maxRecDepth 100000
namespace Go.Proofs.YtibfkkjkahpobaaGreat.PDag
open Go.RowKit Go.Proofs.YtibfkkjkahpobaaGreatW.PrintWords Go.Proofs.YtibfkkjkahpobaaGreatW.PrintLast Go.Proofs.YtibfkkjkahpobaaGreatW.PrintMore
attribute [local go_sem] max2_int min2_int max_two min_two max_three min_three max_four min_four
def isa_IsIns.f (k : Nat) (a0_0 : Int) (a0_1 : Int) (a0_2 : Int) (a0_3 : Int) (a0_4 : Int) (a0_5 : ByteArray) : Option (Bool) := (isa_Is.f a0_0).bind fun t236 => (if t236 = true then ((isa_Shape.f k a0_0).bind fun t237 => ((isa_HasD.f t237).bind fun t238 => ((isa_reg.f t238 a0_1).bind fun t239 => (if t239 = true then ((isa_HasA.f k t237).bind fun t240 => ((isa_reg.f t240 a0_2).bind fun t241 => (if t241 = true then ((isa_HasB.f t237).bind fun t242 => ((isa_reg.f t242 a0_3).bind fun t243 => (if t243 = true then ((isa_imm.f k a0_0 a0_1 a0_2 a0_3 a0_4 a0_5 t237).bind fun t244 => (some t244)) else (some false)))) else (some false)))) else (some false))))) else (some false))
def isa_IsIns.T4 : Bool × List (List Nat × List Nat) := (true, [([], []), ([0], [0]), ([], []), ([2], [2]), ([1, 3, 1], [1, 3]), ([4, 4], [4]), ([5], [5]), ([6, 5, 5], [5, 6]), ([5], [5]), ([8, 5], [5, 8]), ([7, 9, 7, 5], [5, 7, 9]), ([5, 10], [5, 10]), ([11, 10], [11]), ([12], [12]), ([13, 12, 12], [12, 13]), ([12], [12]), ([15, 12], [12, 15]), ([14, 16, 14, 12], [12, 14, 16]), ([12, 17], [12, 17]), ([18, 17], [18]), ([19], [19]), ([19], [19]), ([20, 21, 19, 19], [19, 20, 21]), ([19, 22], [19, 22]), ([23, 22, 0, 1, 2, 3, 4, 5, 6, 7, 8, 9, 10, 11, 12, 13, 14, 15, 16, 17, 18, 19, 20, 21, 22, 23], [23])])
def isa_IsIns.B4 : List Nat := [0, 1, 0, 4, 15, 31, 63, 127, 63, 319, 1023, 2047, 4095, 8191, 16383, 8191, 40959, 131071, 262143, 524287, 1048575, 1048575, 4194303, 8388607, 16777215]
theorem isa_IsIns.tab4 : rtab .any (opsOf Tryz.f59 4) = isa_IsIns.T4 := by kernel_rfl
theorem isa_IsIns.bits4 : waitsOk isa_IsIns.T4.2 isa_IsIns.B4 = true := by kernel_rfl
theorem isa_IsIns.calls (k : Nat) (a0_0 : Int) (a0_1 : Int) (a0_2 : Int) (a0_3 : Int) (a0_4 : Int) (a0_5 : ByteArray) (r : Bool) (w : World) (h : isa_IsIns.f k a0_0 a0_1 a0_2 a0_3 a0_4 a0_5 = some r) :
    Calls Tryz.prog 59 #[.agg #[.int .i64 a0_0, .int .i64 a0_1, .int .i64 a0_2, .int .i64 a0_3, .int .i64 a0_4, .string a0_5]] w fun e w' => e = .returned (.bool r) ∧ Below w.heap.size w w' := by
 have hu24 := Tryz.underlying24; have HB := aM_ (Below.refl w.heap.size w); have H : ((isa_Is.f a0_0).bind fun t236 => (if t236 = true then ((isa_Shape.f k a0_0).bind fun t237 => ((isa_HasD.f t237).bind fun t238 => ((isa_reg.f t238 a0_1).bind fun t239 => (if t239 = true then ((isa_HasA.f k t237).bind fun t240 => ((isa_reg.f t240 a0_2).bind fun t241 => (if t241 = true then ((isa_HasB.f t237).bind fun t242 => ((isa_reg.f t242 a0_3).bind fun t243 => (if t243 = true then ((isa_imm.f k a0_0 a0_1 a0_2 a0_3 a0_4 a0_5 t237).bind fun t244 => (some t244)) else (some false)))) else (some false)))) else (some false))))) else (some false))) = some r := h; clear h; obtain ⟨t236, A2, H⟩ := oB_ H
 by_cases c3 : t236 = true
 ·subst c3; rw [if_pos rfl] at H; obtain ⟨t237, A4, H⟩ := oB_ H; obtain ⟨t238, A5, H⟩ := oB_ H; obtain ⟨t239, A6, H⟩ := oB_ H
  by_cases c7 : t239 = true
  ·subst c7; rw [if_pos rfl] at H; obtain ⟨t240, A8, H⟩ := oB_ H; obtain ⟨t241, A9, H⟩ := oB_ H
   by_cases c10 : t241 = true
   ·subst c10; rw [if_pos rfl] at H; obtain ⟨t242, A11, H⟩ := oB_ H; obtain ⟨t243, A12, H⟩ := oB_ H
    by_cases c13 : t243 = true
    ·subst c13; rw [if_pos rfl] at H; obtain ⟨t244, A14, H⟩ := oB_ H; obtain rfl := oI_ H; go_enter Tryz.func59, Tryz.ntmps59
     try go_wp2_with (first | ((with_reducible refine gate_dst (N := 1) rfl ?_); refine bX_ (N := 1) (cs := #[.int .i64 a0_0, .int .i64 a0_1, .int .i64 a0_2, .int .i64 a0_3, .int .i64 a0_4, .string a0_5]) (t := 24) ?_; intro gb235 hg w15 hbox hb; replace BK235 := aM_ (hbox); replace GW235 := aM_ (gE_ hg (bl_ HB)); replace GE235 := aM_ (gE_ hg (bl_ HB)); replace HB := aM_ (bT_ (bl_ HB) hb); clear hb hbox hg; obtain ⟨hcz16_0, hcz16_1, hcz16_2, hcz16_3, hcz16_4, hcz16_5⟩ := cl6_ BK235.out; obtain ⟨hfz16_0, hfz16_1, hfz16_2, hfz16_3, hfz16_4, hfz16_5⟩ := fz6_ BK235.out) | ((with_reducible refine gC_ (f := 83) rfl ?_); refine gL_ (some 6) Tryz.func83 #[.int .i64 a0_0] rfl ?_; (with_reducible refine (isa_Is.calls a0_0 true _ A2.out).mono ?_); rintro e w' ⟨rfl, ⟨nd, rfl⟩⟩; refine ⟨_, rfl, ?_⟩) | ((with_reducible refine gC_ (f := 89) rfl ?_); refine gL_ (some 10) Tryz.func89 #[.int .i64 a0_0] rfl ?_; (with_reducible refine (isa_Shape.calls k a0_0 t237 _ A4.out).mono ?_); rintro e w' ⟨rfl, ⟨nd, rfl⟩⟩; refine ⟨_, rfl, ?_⟩))
     (try (rw [drewN_self w15]; generalize hq_ : World.drewN w15 _ = w15; replace BK235 : As_ (w15.heap[gb235]? = some (.cells #[.int .i64 a0_0, .int .i64 a0_1, .int .i64 a0_2, .int .i64 a0_3, .int .i64 a0_4, .string a0_5] 24 (0, 0))) := ⟨by rw [← hq_]; exact (rB_ BK235)⟩; replace HB : As_ (Below w.heap.size w w15) := ⟨by rw [← hq_]; exact (bs_ HB GE235)⟩; clear hq_))
     replace BK235 := aM_ (kD_ BK235.out); replace HB := aM_ (b1_ HB.out); refine start_ (n := 25) (S := fun w' => w'.cell? ⟨gb235, 0, none⟩ = some (.int .i64 a0_0) ∧ w'.cell? ⟨gb235, 1, none⟩ = some (.int .i64 a0_1) ∧ w'.cell? ⟨gb235, 2, none⟩ = some (.int .i64 a0_2) ∧ w'.cell? ⟨gb235, 3, none⟩ = some (.int .i64 a0_3) ∧ w'.cell? ⟨gb235, 4, none⟩ = some (.int .i64 a0_4) ∧ w'.cell? ⟨gb235, 5, none⟩ = some (.string a0_5)) (ds := []) (bm 25 0) (by kernel_rfl) rfl (by kernel_rfl) ⟨(bC_ BK235.out 0).trans rfl, (bC_ BK235.out 1).trans rfl, (bC_ BK235.out 2).trans rfl, (bC_ BK235.out 3).trans rfl, (bC_ BK235.out 4).trans rfl, (bC_ BK235.out 5).trans rfl⟩ (fun hHeld => ?_); refine with_tabW isa_IsIns.tab4 isa_IsIns.bits4 (fun HT_ HW_ => ?_); generalize w15.drew = w17 at BK235 HB hHeld ⊢; refine seq_ (k := 22) [(0, some 11, false), (2, some 13, false), (3, some 14, true)] (bm 25 13) rfl (seq_of HT_.out HW_.out (by kernel_rfl)) (fun _ _ _ _ _ h => h) hHeld ?_
     repeat (first | (refine SeqOn.pure (v := ?_) (a' := ?_) rfl rfl (Or.inl ⟨by kernel_rfl, ?_⟩) ?_ ?_; rotate_left 2; (focus (intro w'; go_simp; with_reducible rfl)); (focus exact pU_)) | (refine SeqOn.take (v := ?_) (a' := ?_) rfl rfl (Or.inl ⟨by kernel_rfl, ?_⟩) ?_ ?_; rotate_left 2; (focus (rintro w' ⟨s0, s1, s2, s3, s4, s5⟩; go_simp; with_reducible rfl)); (focus exact pU_)))
     refine SeqOn.nil ?_; refine one_ (i := 1) (N := some 12) (bm 25 15) rfl rfl (one_of HT_.out (by kernel_rfl)) (by decide) (fun K hK => ?_); refine gO_ Tryz.func91 #[.int .i64 t237] rfl ?_
     with_reducible refine (isa_HasD.calls t237 t238 _ A5.out).mono ?_
     rintro e w' ⟨rfl, ⟨nd, rfl⟩⟩; refine ⟨_, rfl, ?_⟩; refine hK.out _ _ ⟨(bC_ BK235.out 0).trans rfl, (bC_ BK235.out 1).trans rfl, (bC_ BK235.out 2).trans rfl, (bC_ BK235.out 3).trans rfl, (bC_ BK235.out 4).trans rfl, (bC_ BK235.out 5).trans rfl⟩ (fun hHeld => ?_); clear hK K; refine norm_ (a' := ?_) ?_ ?_; rotate_left
     ·show Act.put _ (some 12) _ = _; simp only [Act.put, List.setIfInBounds_toArray, List.set_cons_zero, List.set_cons_succ, i64_w, i32_w]; rfl
     refine one_ (i := 4) (N := some 15) (bm 25 31) rfl rfl (one_of HT_.out (by kernel_rfl)) (by decide) (fun K hK => ?_); refine gO_ Tryz.func90 #[.bool t238, .int .i64 a0_1] rfl ?_
     with_reducible refine (isa_reg.calls t238 a0_1 true _ A6.out).mono ?_
     rintro e w' ⟨rfl, ⟨nd, rfl⟩⟩; refine ⟨_, rfl, ?_⟩; refine hK.out _ _ ⟨(bC_ BK235.out 0).trans rfl, (bC_ BK235.out 1).trans rfl, (bC_ BK235.out 2).trans rfl, (bC_ BK235.out 3).trans rfl, (bC_ BK235.out 4).trans rfl, (bC_ BK235.out 5).trans rfl⟩ (fun hHeld => ?_); clear hK K; refine norm_ (a' := ?_) ?_ ?_; rotate_left
     ·show Act.put _ (some 15) _ = _; simp only [Act.put, List.setIfInBounds_toArray, List.set_cons_zero, List.set_cons_succ, i64_w, i32_w]; rfl
     refine seq_ (k := 16) [(5, some 16, false), (6, some 17, false), (8, some 19, false), (9, some 20, true)] (bm 25 895) rfl (seq_of HT_.out HW_.out (by kernel_rfl)) (fun _ _ _ _ _ h => h) hHeld ?_
     repeat (first | (refine SeqOn.pure (v := ?_) (a' := ?_) rfl rfl (Or.inl ⟨by kernel_rfl, ?_⟩) ?_ ?_; rotate_left 2; (focus (intro w'; go_simp; with_reducible rfl)); (focus exact pU_)) | (refine SeqOn.take (v := ?_) (a' := ?_) rfl rfl (Or.inl ⟨by kernel_rfl, ?_⟩) ?_ ?_; rotate_left 2; (focus (rintro w' ⟨s0, s1, s2, s3, s4, s5⟩; go_simp; with_reducible rfl)); (focus exact pU_)))
     refine SeqOn.nil ?_; refine one_ (i := 7) (N := some 18) (bm 25 1023) rfl rfl (one_of HT_.out (by kernel_rfl)) (by decide) (fun K hK => ?_); refine gO_ Tryz.func92 #[.int .i64 t237] rfl ?_
     with_reducible refine (isa_HasA.calls k t237 t240 _ A8.out).mono ?_
     rintro e w' ⟨rfl, ⟨nd, rfl⟩⟩; refine ⟨_, rfl, ?_⟩; refine hK.out _ _ ⟨(bC_ BK235.out 0).trans rfl, (bC_ BK235.out 1).trans rfl, (bC_ BK235.out 2).trans rfl, (bC_ BK235.out 3).trans rfl, (bC_ BK235.out 4).trans rfl, (bC_ BK235.out 5).trans rfl⟩ (fun hHeld => ?_); clear hK K; refine norm_ (a' := ?_) ?_ ?_; rotate_left
     ·show Act.put _ (some 18) _ = _; simp only [Act.put, List.setIfInBounds_toArray, List.set_cons_zero, List.set_cons_succ, i64_w, i32_w]; rfl
     refine one_ (i := 10) (N := some 21) (bm 25 2047) rfl rfl (one_of HT_.out (by kernel_rfl)) (by decide) (fun K hK => ?_); refine gO_ Tryz.func90 #[.bool t240, .int .i64 a0_2] rfl ?_
     with_reducible refine (isa_reg.calls t240 a0_2 true _ A9.out).mono ?_
     rintro e w' ⟨rfl, ⟨nd, rfl⟩⟩; refine ⟨_, rfl, ?_⟩; refine hK.out _ _ ⟨(bC_ BK235.out 0).trans rfl, (bC_ BK235.out 1).trans rfl, (bC_ BK235.out 2).trans rfl, (bC_ BK235.out 3).trans rfl, (bC_ BK235.out 4).trans rfl, (bC_ BK235.out 5).trans rfl⟩ (fun hHeld => ?_); clear hK K; refine norm_ (a' := ?_) ?_ ?_; rotate_left
     ·show Act.put _ (some 21) _ = _; simp only [Act.put, List.setIfInBounds_toArray, List.set_cons_zero, List.set_cons_succ, i64_w, i32_w]; rfl
     refine seq_ (k := 9) [(11, some 22, false), (12, some 23, false), (13, some 24, false), (15, some 26, false), (16, some 27, true)] (bm 25 114687) rfl (seq_of HT_.out HW_.out (by kernel_rfl)) (fun _ _ _ _ _ h => h) hHeld ?_
     repeat (first | (refine SeqOn.pure (v := ?_) (a' := ?_) rfl rfl (Or.inl ⟨by kernel_rfl, ?_⟩) ?_ ?_; rotate_left 2; (focus (intro w'; go_simp; with_reducible rfl)); (focus exact pU_)) | (refine SeqOn.take (v := ?_) (a' := ?_) rfl rfl (Or.inl ⟨by kernel_rfl, ?_⟩) ?_ ?_; rotate_left 2; (focus (rintro w' ⟨s0, s1, s2, s3, s4, s5⟩; go_simp; with_reducible rfl)); (focus exact pU_)))
     refine SeqOn.nil ?_; refine one_ (i := 14) (N := some 25) (bm 25 131071) rfl rfl (one_of HT_.out (by kernel_rfl)) (by decide) (fun K hK => ?_); refine gO_ Tryz.func93 #[.int .i64 t237] rfl ?_
     with_reducible refine (isa_HasB.calls t237 t242 _ A11.out).mono ?_
     rintro e w' ⟨rfl, ⟨nd, rfl⟩⟩; refine ⟨_, rfl, ?_⟩; refine hK.out _ _ ⟨(bC_ BK235.out 0).trans rfl, (bC_ BK235.out 1).trans rfl, (bC_ BK235.out 2).trans rfl, (bC_ BK235.out 3).trans rfl, (bC_ BK235.out 4).trans rfl, (bC_ BK235.out 5).trans rfl⟩ (fun hHeld => ?_); clear hK K; refine norm_ (a' := ?_) ?_ ?_; rotate_left
     ·show Act.put _ (some 25) _ = _; simp only [Act.put, List.setIfInBounds_toArray, List.set_cons_zero, List.set_cons_succ, i64_w, i32_w]; rfl
     refine one_ (i := 17) (N := some 28) (bm 25 262143) rfl rfl (one_of HT_.out (by kernel_rfl)) (by decide) (fun K hK => ?_); refine gO_ Tryz.func90 #[.bool t242, .int .i64 a0_3] rfl ?_
     with_reducible refine (isa_reg.calls t242 a0_3 true _ A12.out).mono ?_
     rintro e w' ⟨rfl, ⟨nd, rfl⟩⟩; refine ⟨_, rfl, ?_⟩; refine hK.out _ _ ⟨(bC_ BK235.out 0).trans rfl, (bC_ BK235.out 1).trans rfl, (bC_ BK235.out 2).trans rfl, (bC_ BK235.out 3).trans rfl, (bC_ BK235.out 4).trans rfl, (bC_ BK235.out 5).trans rfl⟩ (fun hHeld => ?_); clear hK K; refine norm_ (a' := ?_) ?_ ?_; rotate_left
     ·show Act.put _ (some 28) _ = _; simp only [Act.put, List.setIfInBounds_toArray, List.set_cons_zero, List.set_cons_succ, i64_w, i32_w]; rfl
     refine seq_ (k := 3) [(18, some 29, false), (19, some 30, false), (21, some 32, false), (20, some 31, true)] (bm 25 4194303) rfl (seq_of HT_.out HW_.out (by kernel_rfl)) (fun _ _ _ _ _ h => h) hHeld ?_
     repeat (first | (refine SeqOn.pure (v := ?_) (a' := ?_) rfl rfl (Or.inl ⟨by kernel_rfl, ?_⟩) ?_ ?_; rotate_left 2; (focus (intro w'; go_simp; with_reducible rfl)); (focus exact pU_)) | (refine SeqOn.take (v := ?_) (a' := ?_) rfl rfl (Or.inl ⟨by kernel_rfl, ?_⟩) ?_ ?_; rotate_left 2; (focus (rintro w' ⟨s0, s1, s2, s3, s4, s5⟩; go_simp; with_reducible rfl)); (focus exact pU_)))
     refine SeqOn.nil ?_; refine one_ (i := 22) (N := some 33) (bm 25 8388607) rfl rfl (one_of HT_.out (by kernel_rfl)) (by decide) (fun K hK => ?_); refine gO_ Tryz.func94 #[.agg #[.int .i64 a0_0, .int .i64 a0_1, .int .i64 a0_2, .int .i64 a0_3, .int .i64 a0_4, .string a0_5], .int .i64 t237] rfl ?_
     with_reducible refine (isa_imm.calls k a0_0 a0_1 a0_2 a0_3 a0_4 a0_5 t237 t244 _ A14.out).mono ?_
     rintro e w18 ⟨rfl, hb⟩; refine ⟨_, rfl, ?_⟩; replace BK235 := aM_ (kB_ (rB_ BK235) hb); replace HB := aM_ (bT_ (bs_ HB GE235) hb); refine hK.out _ _ ⟨(bC_ BK235.out 0).trans rfl, (bC_ BK235.out 1).trans rfl, (bC_ BK235.out 2).trans rfl, (bC_ BK235.out 3).trans rfl, (bC_ BK235.out 4).trans rfl, (bC_ BK235.out 5).trans rfl⟩ (fun hHeld => ?_); clear hK K; refine norm_ (a' := ?_) ?_ ?_; rotate_left
     ·show Act.put _ (some 33) _ = _; simp only [Act.put, List.setIfInBounds_toArray, List.set_cons_zero, List.set_cons_succ, i64_w, i32_w]; rfl
     refine seq_ (k := 0) [(23, some 34, false), (24, some 2, false)] (bm 25 33554431) rfl (seq_of HT_.out HW_.out (by kernel_rfl)) (fun _ _ _ _ _ h => h) hHeld ?_
     repeat (first | (refine SeqOn.pure (v := ?_) (a' := ?_) rfl rfl (Or.inl ⟨by kernel_rfl, ?_⟩) ?_ ?_; rotate_left 2; (focus (intro w'; go_simp; with_reducible rfl)); (focus exact pU_)))
     refine SeqOn.nil ?_; refine done_ (done_of HT_.out (by kernel_rfl)) ?_
     try go_wp2
     go_ret; exact ⟨eR_, bs_ HB GE235⟩
    replace c13 := eF_ c13; subst c13; rw [if_neg Bool.false_ne_true] at H; obtain rfl := oI_ H; go_enter Tryz.func59, Tryz.ntmps59
    try go_wp2_with (first | ((with_reducible refine gate_dst (N := 1) rfl ?_); refine bX_ (N := 1) (cs := #[.int .i64 a0_0, .int .i64 a0_1, .int .i64 a0_2, .int .i64 a0_3, .int .i64 a0_4, .string a0_5]) (t := 24) ?_; intro gb235 hg w19 hbox hb; replace BK235 := aM_ (hbox); replace GW235 := aM_ (gE_ hg (bl_ HB)); replace GE235 := aM_ (gE_ hg (bl_ HB)); replace HB := aM_ (bT_ (bl_ HB) hb); clear hb hbox hg; obtain ⟨hcz20_0, hcz20_1, hcz20_2, hcz20_3, hcz20_4, hcz20_5⟩ := cl6_ BK235.out; obtain ⟨hfz20_0, hfz20_1, hfz20_2, hfz20_3, hfz20_4, hfz20_5⟩ := fz6_ BK235.out) | ((with_reducible refine gC_ (f := 83) rfl ?_); refine gL_ (some 6) Tryz.func83 #[.int .i64 a0_0] rfl ?_; (with_reducible refine (isa_Is.calls a0_0 true _ A2.out).mono ?_); rintro e w' ⟨rfl, ⟨nd, rfl⟩⟩; refine ⟨_, rfl, ?_⟩) | ((with_reducible refine gC_ (f := 89) rfl ?_); refine gL_ (some 10) Tryz.func89 #[.int .i64 a0_0] rfl ?_; (with_reducible refine (isa_Shape.calls k a0_0 t237 _ A4.out).mono ?_); rintro e w' ⟨rfl, ⟨nd, rfl⟩⟩; refine ⟨_, rfl, ?_⟩))
    (try (rw [drewN_self w19]; generalize hq_ : World.drewN w19 _ = w19; replace BK235 : As_ (w19.heap[gb235]? = some (.cells #[.int .i64 a0_0, .int .i64 a0_1, .int .i64 a0_2, .int .i64 a0_3, .int .i64 a0_4, .string a0_5] 24 (0, 0))) := ⟨by rw [← hq_]; exact (rB_ BK235)⟩; replace HB : As_ (Below w.heap.size w w19) := ⟨by rw [← hq_]; exact (bs_ HB GE235)⟩; clear hq_))
    replace BK235 := aM_ (kD_ BK235.out); replace HB := aM_ (b1_ HB.out); refine start_ (n := 25) (S := fun w' => w'.cell? ⟨gb235, 0, none⟩ = some (.int .i64 a0_0) ∧ w'.cell? ⟨gb235, 1, none⟩ = some (.int .i64 a0_1) ∧ w'.cell? ⟨gb235, 2, none⟩ = some (.int .i64 a0_2) ∧ w'.cell? ⟨gb235, 3, none⟩ = some (.int .i64 a0_3) ∧ w'.cell? ⟨gb235, 4, none⟩ = some (.int .i64 a0_4) ∧ w'.cell? ⟨gb235, 5, none⟩ = some (.string a0_5)) (ds := []) (bm 25 0) (by kernel_rfl) rfl (by kernel_rfl) ⟨(bC_ BK235.out 0).trans rfl, (bC_ BK235.out 1).trans rfl, (bC_ BK235.out 2).trans rfl, (bC_ BK235.out 3).trans rfl, (bC_ BK235.out 4).trans rfl, (bC_ BK235.out 5).trans rfl⟩ (fun hHeld => ?_); refine with_tabW isa_IsIns.tab4 isa_IsIns.bits4 (fun HT_ HW_ => ?_); generalize w19.drew = w21 at BK235 HB hHeld ⊢; refine seq_ (k := 22) [(0, some 11, false), (2, some 13, false), (3, some 14, true)] (bm 25 13) rfl (seq_of HT_.out HW_.out (by kernel_rfl)) (fun _ _ _ _ _ h => h) hHeld ?_
    repeat (first | (refine SeqOn.pure (v := ?_) (a' := ?_) rfl rfl (Or.inl ⟨by kernel_rfl, ?_⟩) ?_ ?_; rotate_left 2; (focus (intro w'; go_simp; with_reducible rfl)); (focus exact pU_)) | (refine SeqOn.take (v := ?_) (a' := ?_) rfl rfl (Or.inl ⟨by kernel_rfl, ?_⟩) ?_ ?_; rotate_left 2; (focus (rintro w' ⟨s0, s1, s2, s3, s4, s5⟩; go_simp; with_reducible rfl)); (focus exact pU_)))
    refine SeqOn.nil ?_; refine one_ (i := 1) (N := some 12) (bm 25 15) rfl rfl (one_of HT_.out (by kernel_rfl)) (by decide) (fun K hK => ?_); refine gO_ Tryz.func91 #[.int .i64 t237] rfl ?_
    with_reducible refine (isa_HasD.calls t237 t238 _ A5.out).mono ?_
    rintro e w' ⟨rfl, ⟨nd, rfl⟩⟩; refine ⟨_, rfl, ?_⟩; refine hK.out _ _ ⟨(bC_ BK235.out 0).trans rfl, (bC_ BK235.out 1).trans rfl, (bC_ BK235.out 2).trans rfl, (bC_ BK235.out 3).trans rfl, (bC_ BK235.out 4).trans rfl, (bC_ BK235.out 5).trans rfl⟩ (fun hHeld => ?_); clear hK K; refine norm_ (a' := ?_) ?_ ?_; rotate_left
    ·show Act.put _ (some 12) _ = _; simp only [Act.put, List.setIfInBounds_toArray, List.set_cons_zero, List.set_cons_succ, i64_w, i32_w]; rfl
    refine one_ (i := 4) (N := some 15) (bm 25 31) rfl rfl (one_of HT_.out (by kernel_rfl)) (by decide) (fun K hK => ?_); refine gO_ Tryz.func90 #[.bool t238, .int .i64 a0_1] rfl ?_
    with_reducible refine (isa_reg.calls t238 a0_1 true _ A6.out).mono ?_
    rintro e w' ⟨rfl, ⟨nd, rfl⟩⟩; refine ⟨_, rfl, ?_⟩; refine hK.out _ _ ⟨(bC_ BK235.out 0).trans rfl, (bC_ BK235.out 1).trans rfl, (bC_ BK235.out 2).trans rfl, (bC_ BK235.out 3).trans rfl, (bC_ BK235.out 4).trans rfl, (bC_ BK235.out 5).trans rfl⟩ (fun hHeld => ?_); clear hK K; refine norm_ (a' := ?_) ?_ ?_; rotate_left
    ·show Act.put _ (some 15) _ = _; simp only [Act.put, List.setIfInBounds_toArray, List.set_cons_zero, List.set_cons_succ, i64_w, i32_w]; rfl
    refine seq_ (k := 16) [(5, some 16, false), (6, some 17, false), (8, some 19, false), (9, some 20, true)] (bm 25 895) rfl (seq_of HT_.out HW_.out (by kernel_rfl)) (fun _ _ _ _ _ h => h) hHeld ?_
    repeat (first | (refine SeqOn.pure (v := ?_) (a' := ?_) rfl rfl (Or.inl ⟨by kernel_rfl, ?_⟩) ?_ ?_; rotate_left 2; (focus (intro w'; go_simp; with_reducible rfl)); (focus exact pU_)) | (refine SeqOn.take (v := ?_) (a' := ?_) rfl rfl (Or.inl ⟨by kernel_rfl, ?_⟩) ?_ ?_; rotate_left 2; (focus (rintro w' ⟨s0, s1, s2, s3, s4, s5⟩; go_simp; with_reducible rfl)); (focus exact pU_)))
    refine SeqOn.nil ?_; refine one_ (i := 7) (N := some 18) (bm 25 1023) rfl rfl (one_of HT_.out (by kernel_rfl)) (by decide) (fun K hK => ?_); refine gO_ Tryz.func92 #[.int .i64 t237] rfl ?_
    with_reducible refine (isa_HasA.calls k t237 t240 _ A8.out).mono ?_
    rintro e w' ⟨rfl, ⟨nd, rfl⟩⟩; refine ⟨_, rfl, ?_⟩; refine hK.out _ _ ⟨(bC_ BK235.out 0).trans rfl, (bC_ BK235.out 1).trans rfl, (bC_ BK235.out 2).trans rfl, (bC_ BK235.out 3).trans rfl, (bC_ BK235.out 4).trans rfl, (bC_ BK235.out 5).trans rfl⟩ (fun hHeld => ?_); clear hK K; refine norm_ (a' := ?_) ?_ ?_; rotate_left
    ·show Act.put _ (some 18) _ = _; simp only [Act.put, List.setIfInBounds_toArray, List.set_cons_zero, List.set_cons_succ, i64_w, i32_w]; rfl
    refine one_ (i := 10) (N := some 21) (bm 25 2047) rfl rfl (one_of HT_.out (by kernel_rfl)) (by decide) (fun K hK => ?_); refine gO_ Tryz.func90 #[.bool t240, .int .i64 a0_2] rfl ?_
    with_reducible refine (isa_reg.calls t240 a0_2 true _ A9.out).mono ?_
    rintro e w' ⟨rfl, ⟨nd, rfl⟩⟩; refine ⟨_, rfl, ?_⟩; refine hK.out _ _ ⟨(bC_ BK235.out 0).trans rfl, (bC_ BK235.out 1).trans rfl, (bC_ BK235.out 2).trans rfl, (bC_ BK235.out 3).trans rfl, (bC_ BK235.out 4).trans rfl, (bC_ BK235.out 5).trans rfl⟩ (fun hHeld => ?_); clear hK K; refine norm_ (a' := ?_) ?_ ?_; rotate_left
    ·show Act.put _ (some 21) _ = _; simp only [Act.put, List.setIfInBounds_toArray, List.set_cons_zero, List.set_cons_succ, i64_w, i32_w]; rfl
    refine seq_ (k := 9) [(11, some 22, false), (12, some 23, false), (13, some 24, false), (15, some 26, false), (16, some 27, true)] (bm 25 114687) rfl (seq_of HT_.out HW_.out (by kernel_rfl)) (fun _ _ _ _ _ h => h) hHeld ?_
    repeat (first | (refine SeqOn.pure (v := ?_) (a' := ?_) rfl rfl (Or.inl ⟨by kernel_rfl, ?_⟩) ?_ ?_; rotate_left 2; (focus (intro w'; go_simp; with_reducible rfl)); (focus exact pU_)) | (refine SeqOn.take (v := ?_) (a' := ?_) rfl rfl (Or.inl ⟨by kernel_rfl, ?_⟩) ?_ ?_; rotate_left 2; (focus (rintro w' ⟨s0, s1, s2, s3, s4, s5⟩; go_simp; with_reducible rfl)); (focus exact pU_)))
    refine SeqOn.nil ?_; refine one_ (i := 14) (N := some 25) (bm 25 131071) rfl rfl (one_of HT_.out (by kernel_rfl)) (by decide) (fun K hK => ?_); refine gO_ Tryz.func93 #[.int .i64 t237] rfl ?_
    with_reducible refine (isa_HasB.calls t237 t242 _ A11.out).mono ?_
    rintro e w' ⟨rfl, ⟨nd, rfl⟩⟩; refine ⟨_, rfl, ?_⟩; refine hK.out _ _ ⟨(bC_ BK235.out 0).trans rfl, (bC_ BK235.out 1).trans rfl, (bC_ BK235.out 2).trans rfl, (bC_ BK235.out 3).trans rfl, (bC_ BK235.out 4).trans rfl, (bC_ BK235.out 5).trans rfl⟩ (fun hHeld => ?_); clear hK K; refine norm_ (a' := ?_) ?_ ?_; rotate_left
    ·show Act.put _ (some 25) _ = _; simp only [Act.put, List.setIfInBounds_toArray, List.set_cons_zero, List.set_cons_succ, i64_w, i32_w]; rfl
    refine one_ (i := 17) (N := some 28) (bm 25 262143) rfl rfl (one_of HT_.out (by kernel_rfl)) (by decide) (fun K hK => ?_); refine gO_ Tryz.func90 #[.bool t242, .int .i64 a0_3] rfl ?_
    with_reducible refine (isa_reg.calls t242 a0_3 false _ A12.out).mono ?_
    rintro e w' ⟨rfl, ⟨nd, rfl⟩⟩; refine ⟨_, rfl, ?_⟩; refine hK.out _ _ ⟨(bC_ BK235.out 0).trans rfl, (bC_ BK235.out 1).trans rfl, (bC_ BK235.out 2).trans rfl, (bC_ BK235.out 3).trans rfl, (bC_ BK235.out 4).trans rfl, (bC_ BK235.out 5).trans rfl⟩ (fun hHeld => ?_); clear hK K; refine norm_ (a' := ?_) ?_ ?_; rotate_left
    ·show Act.put _ (some 28) _ = _; simp only [Act.put, List.setIfInBounds_toArray, List.set_cons_zero, List.set_cons_succ, i64_w, i32_w]; rfl
    refine seq_ (k := 5) [(18, some 29, false), (19, some 30, false)] (bm 25 1048575) rfl (seq_of HT_.out HW_.out (by kernel_rfl)) (fun _ _ _ _ _ h => h) hHeld ?_
    repeat (first | (refine SeqOn.pure (v := ?_) (a' := ?_) rfl rfl (Or.inl ⟨by kernel_rfl, ?_⟩) ?_ ?_; rotate_left 2; (focus (intro w'; go_simp; with_reducible rfl)); (focus exact pU_)))
    refine SeqOn.nil ?_; refine offs_ (k := 2) (a' := ?_) [20, 21, 22] [some 31, some 32, some 33] (bm 25 8388607) rfl rfl (off_of HT_.out (by kernel_rfl)) (by kernel_rfl) (fun _ _ _ _ _ h => h) ?_ ?_; rotate_left
    ·simp only [undefs, Act.put, List.setIfInBounds_toArray, List.set_cons_zero, List.set_cons_succ]; rfl
    refine seq_ (k := 0) [(23, some 34, false), (24, some 2, false)] (bm 25 33554431) rfl (seq_of HT_.out HW_.out (by kernel_rfl)) (fun _ _ _ _ _ h => h) hHeld ?_
    repeat (first | (refine SeqOn.pure (v := ?_) (a' := ?_) rfl rfl (Or.inl ⟨by kernel_rfl, ?_⟩) ?_ ?_; rotate_left 2; (focus (intro w'; go_simp; with_reducible rfl)); (focus exact pU_)))
    refine SeqOn.nil ?_; refine done_ (done_of HT_.out (by kernel_rfl)) ?_
    try go_wp2
    go_ret; exact ⟨eR_, bs_ HB GE235⟩
   replace c10 := eF_ c10; subst c10; rw [if_neg Bool.false_ne_true] at H; obtain rfl := oI_ H; go_enter Tryz.func59, Tryz.ntmps59
   try go_wp2_with (first | ((with_reducible refine gate_dst (N := 1) rfl ?_); refine bX_ (N := 1) (cs := #[.int .i64 a0_0, .int .i64 a0_1, .int .i64 a0_2, .int .i64 a0_3, .int .i64 a0_4, .string a0_5]) (t := 24) ?_; intro gb235 hg w22 hbox hb; replace BK235 := aM_ (hbox); replace GW235 := aM_ (gE_ hg (bl_ HB)); replace GE235 := aM_ (gE_ hg (bl_ HB)); replace HB := aM_ (bT_ (bl_ HB) hb); clear hb hbox hg; obtain ⟨hcz23_0, hcz23_1, hcz23_2, hcz23_3, hcz23_4, hcz23_5⟩ := cl6_ BK235.out; obtain ⟨hfz23_0, hfz23_1, hfz23_2, hfz23_3, hfz23_4, hfz23_5⟩ := fz6_ BK235.out) | ((with_reducible refine gC_ (f := 83) rfl ?_); refine gL_ (some 6) Tryz.func83 #[.int .i64 a0_0] rfl ?_; (with_reducible refine (isa_Is.calls a0_0 true _ A2.out).mono ?_); rintro e w' ⟨rfl, ⟨nd, rfl⟩⟩; refine ⟨_, rfl, ?_⟩) | ((with_reducible refine gC_ (f := 89) rfl ?_); refine gL_ (some 10) Tryz.func89 #[.int .i64 a0_0] rfl ?_; (with_reducible refine (isa_Shape.calls k a0_0 t237 _ A4.out).mono ?_); rintro e w' ⟨rfl, ⟨nd, rfl⟩⟩; refine ⟨_, rfl, ?_⟩))
   (try (rw [drewN_self w22]; generalize hq_ : World.drewN w22 _ = w22; replace BK235 : As_ (w22.heap[gb235]? = some (.cells #[.int .i64 a0_0, .int .i64 a0_1, .int .i64 a0_2, .int .i64 a0_3, .int .i64 a0_4, .string a0_5] 24 (0, 0))) := ⟨by rw [← hq_]; exact (rB_ BK235)⟩; replace HB : As_ (Below w.heap.size w w22) := ⟨by rw [← hq_]; exact (bs_ HB GE235)⟩; clear hq_))
   replace BK235 := aM_ (kD_ BK235.out); replace HB := aM_ (b1_ HB.out); refine start_ (n := 25) (S := fun w' => w'.cell? ⟨gb235, 0, none⟩ = some (.int .i64 a0_0) ∧ w'.cell? ⟨gb235, 1, none⟩ = some (.int .i64 a0_1) ∧ w'.cell? ⟨gb235, 2, none⟩ = some (.int .i64 a0_2) ∧ w'.cell? ⟨gb235, 3, none⟩ = some (.int .i64 a0_3) ∧ w'.cell? ⟨gb235, 4, none⟩ = some (.int .i64 a0_4) ∧ w'.cell? ⟨gb235, 5, none⟩ = some (.string a0_5)) (ds := []) (bm 25 0) (by kernel_rfl) rfl (by kernel_rfl) ⟨(bC_ BK235.out 0).trans rfl, (bC_ BK235.out 1).trans rfl, (bC_ BK235.out 2).trans rfl, (bC_ BK235.out 3).trans rfl, (bC_ BK235.out 4).trans rfl, (bC_ BK235.out 5).trans rfl⟩ (fun hHeld => ?_); refine with_tabW isa_IsIns.tab4 isa_IsIns.bits4 (fun HT_ HW_ => ?_); generalize w22.drew = w24 at BK235 HB hHeld ⊢; refine seq_ (k := 22) [(0, some 11, false), (2, some 13, false), (3, some 14, true)] (bm 25 13) rfl (seq_of HT_.out HW_.out (by kernel_rfl)) (fun _ _ _ _ _ h => h) hHeld ?_
   repeat (first | (refine SeqOn.pure (v := ?_) (a' := ?_) rfl rfl (Or.inl ⟨by kernel_rfl, ?_⟩) ?_ ?_; rotate_left 2; (focus (intro w'; go_simp; with_reducible rfl)); (focus exact pU_)) | (refine SeqOn.take (v := ?_) (a' := ?_) rfl rfl (Or.inl ⟨by kernel_rfl, ?_⟩) ?_ ?_; rotate_left 2; (focus (rintro w' ⟨s0, s1, s2, s3, s4, s5⟩; go_simp; with_reducible rfl)); (focus exact pU_)))
   refine SeqOn.nil ?_; refine one_ (i := 1) (N := some 12) (bm 25 15) rfl rfl (one_of HT_.out (by kernel_rfl)) (by decide) (fun K hK => ?_); refine gO_ Tryz.func91 #[.int .i64 t237] rfl ?_
   with_reducible refine (isa_HasD.calls t237 t238 _ A5.out).mono ?_
   rintro e w' ⟨rfl, ⟨nd, rfl⟩⟩; refine ⟨_, rfl, ?_⟩; refine hK.out _ _ ⟨(bC_ BK235.out 0).trans rfl, (bC_ BK235.out 1).trans rfl, (bC_ BK235.out 2).trans rfl, (bC_ BK235.out 3).trans rfl, (bC_ BK235.out 4).trans rfl, (bC_ BK235.out 5).trans rfl⟩ (fun hHeld => ?_); clear hK K; refine norm_ (a' := ?_) ?_ ?_; rotate_left
   ·show Act.put _ (some 12) _ = _; simp only [Act.put, List.setIfInBounds_toArray, List.set_cons_zero, List.set_cons_succ, i64_w, i32_w]; rfl
   refine one_ (i := 4) (N := some 15) (bm 25 31) rfl rfl (one_of HT_.out (by kernel_rfl)) (by decide) (fun K hK => ?_); refine gO_ Tryz.func90 #[.bool t238, .int .i64 a0_1] rfl ?_
   with_reducible refine (isa_reg.calls t238 a0_1 true _ A6.out).mono ?_
   rintro e w' ⟨rfl, ⟨nd, rfl⟩⟩; refine ⟨_, rfl, ?_⟩; refine hK.out _ _ ⟨(bC_ BK235.out 0).trans rfl, (bC_ BK235.out 1).trans rfl, (bC_ BK235.out 2).trans rfl, (bC_ BK235.out 3).trans rfl, (bC_ BK235.out 4).trans rfl, (bC_ BK235.out 5).trans rfl⟩ (fun hHeld => ?_); clear hK K; refine norm_ (a' := ?_) ?_ ?_; rotate_left
   ·show Act.put _ (some 15) _ = _; simp only [Act.put, List.setIfInBounds_toArray, List.set_cons_zero, List.set_cons_succ, i64_w, i32_w]; rfl
   refine seq_ (k := 16) [(5, some 16, false), (6, some 17, false), (8, some 19, false), (9, some 20, true)] (bm 25 895) rfl (seq_of HT_.out HW_.out (by kernel_rfl)) (fun _ _ _ _ _ h => h) hHeld ?_
   repeat (first | (refine SeqOn.pure (v := ?_) (a' := ?_) rfl rfl (Or.inl ⟨by kernel_rfl, ?_⟩) ?_ ?_; rotate_left 2; (focus (intro w'; go_simp; with_reducible rfl)); (focus exact pU_)) | (refine SeqOn.take (v := ?_) (a' := ?_) rfl rfl (Or.inl ⟨by kernel_rfl, ?_⟩) ?_ ?_; rotate_left 2; (focus (rintro w' ⟨s0, s1, s2, s3, s4, s5⟩; go_simp; with_reducible rfl)); (focus exact pU_)))
   refine SeqOn.nil ?_; refine one_ (i := 7) (N := some 18) (bm 25 1023) rfl rfl (one_of HT_.out (by kernel_rfl)) (by decide) (fun K hK => ?_); refine gO_ Tryz.func92 #[.int .i64 t237] rfl ?_
   with_reducible refine (isa_HasA.calls k t237 t240 _ A8.out).mono ?_
   rintro e w' ⟨rfl, ⟨nd, rfl⟩⟩; refine ⟨_, rfl, ?_⟩; refine hK.out _ _ ⟨(bC_ BK235.out 0).trans rfl, (bC_ BK235.out 1).trans rfl, (bC_ BK235.out 2).trans rfl, (bC_ BK235.out 3).trans rfl, (bC_ BK235.out 4).trans rfl, (bC_ BK235.out 5).trans rfl⟩ (fun hHeld => ?_); clear hK K; refine norm_ (a' := ?_) ?_ ?_; rotate_left
   ·show Act.put _ (some 18) _ = _; simp only [Act.put, List.setIfInBounds_toArray, List.set_cons_zero, List.set_cons_succ, i64_w, i32_w]; rfl
   refine one_ (i := 10) (N := some 21) (bm 25 2047) rfl rfl (one_of HT_.out (by kernel_rfl)) (by decide) (fun K hK => ?_); refine gO_ Tryz.func90 #[.bool t240, .int .i64 a0_2] rfl ?_
   with_reducible refine (isa_reg.calls t240 a0_2 false _ A9.out).mono ?_
   rintro e w' ⟨rfl, ⟨nd, rfl⟩⟩; refine ⟨_, rfl, ?_⟩; refine hK.out _ _ ⟨(bC_ BK235.out 0).trans rfl, (bC_ BK235.out 1).trans rfl, (bC_ BK235.out 2).trans rfl, (bC_ BK235.out 3).trans rfl, (bC_ BK235.out 4).trans rfl, (bC_ BK235.out 5).trans rfl⟩ (fun hHeld => ?_); clear hK K; refine norm_ (a' := ?_) ?_ ?_; rotate_left
   ·show Act.put _ (some 21) _ = _; simp only [Act.put, List.setIfInBounds_toArray, List.set_cons_zero, List.set_cons_succ, i64_w, i32_w]; rfl
   refine seq_ (k := 12) [(11, some 22, false), (12, some 23, false)] (bm 25 8191) rfl (seq_of HT_.out HW_.out (by kernel_rfl)) (fun _ _ _ _ _ h => h) hHeld ?_
   repeat (first | (refine SeqOn.pure (v := ?_) (a' := ?_) rfl rfl (Or.inl ⟨by kernel_rfl, ?_⟩) ?_ ?_; rotate_left 2; (focus (intro w'; go_simp; with_reducible rfl)); (focus exact pU_)))
   refine SeqOn.nil ?_; refine offs_ (k := 7) (a' := ?_) [13, 14, 15, 16, 17] [some 24, some 25, some 26, some 27, some 28] (bm 25 262143) rfl rfl (off_of HT_.out (by kernel_rfl)) (by kernel_rfl) (fun _ _ _ _ _ h => h) ?_ ?_; rotate_left
   ·simp only [undefs, Act.put, List.setIfInBounds_toArray, List.set_cons_zero, List.set_cons_succ]; rfl
   refine seq_ (k := 5) [(18, some 29, false), (19, some 30, false)] (bm 25 1048575) rfl (seq_of HT_.out HW_.out (by kernel_rfl)) (fun _ _ _ _ _ h => h) hHeld ?_
   repeat (first | (refine SeqOn.pure (v := ?_) (a' := ?_) rfl rfl (Or.inl ⟨by kernel_rfl, ?_⟩) ?_ ?_; rotate_left 2; (focus (intro w'; go_simp; with_reducible rfl)); (focus exact pU_)))
   refine SeqOn.nil ?_; refine offs_ (k := 2) (a' := ?_) [20, 21, 22] [some 31, some 32, some 33] (bm 25 8388607) rfl rfl (off_of HT_.out (by kernel_rfl)) (by kernel_rfl) (fun _ _ _ _ _ h => h) ?_ ?_; rotate_left
   ·simp only [undefs, Act.put, List.setIfInBounds_toArray, List.set_cons_zero, List.set_cons_succ]; rfl
   refine seq_ (k := 0) [(23, some 34, false), (24, some 2, false)] (bm 25 33554431) rfl (seq_of HT_.out HW_.out (by kernel_rfl)) (fun _ _ _ _ _ h => h) hHeld ?_
   repeat (first | (refine SeqOn.pure (v := ?_) (a' := ?_) rfl rfl (Or.inl ⟨by kernel_rfl, ?_⟩) ?_ ?_; rotate_left 2; (focus (intro w'; go_simp; with_reducible rfl)); (focus exact pU_)))
   refine SeqOn.nil ?_; refine done_ (done_of HT_.out (by kernel_rfl)) ?_
   try go_wp2
   go_ret; exact ⟨eR_, bs_ HB GE235⟩
  replace c7 := eF_ c7; subst c7; rw [if_neg Bool.false_ne_true] at H; obtain rfl := oI_ H; go_enter Tryz.func59, Tryz.ntmps59
  try go_wp2_with (first | ((with_reducible refine gate_dst (N := 1) rfl ?_); refine bX_ (N := 1) (cs := #[.int .i64 a0_0, .int .i64 a0_1, .int .i64 a0_2, .int .i64 a0_3, .int .i64 a0_4, .string a0_5]) (t := 24) ?_; intro gb235 hg w25 hbox hb; replace BK235 := aM_ (hbox); replace GW235 := aM_ (gE_ hg (bl_ HB)); replace GE235 := aM_ (gE_ hg (bl_ HB)); replace HB := aM_ (bT_ (bl_ HB) hb); clear hb hbox hg; obtain ⟨hcz26_0, hcz26_1, hcz26_2, hcz26_3, hcz26_4, hcz26_5⟩ := cl6_ BK235.out; obtain ⟨hfz26_0, hfz26_1, hfz26_2, hfz26_3, hfz26_4, hfz26_5⟩ := fz6_ BK235.out) | ((with_reducible refine gC_ (f := 83) rfl ?_); refine gL_ (some 6) Tryz.func83 #[.int .i64 a0_0] rfl ?_; (with_reducible refine (isa_Is.calls a0_0 true _ A2.out).mono ?_); rintro e w' ⟨rfl, ⟨nd, rfl⟩⟩; refine ⟨_, rfl, ?_⟩) | ((with_reducible refine gC_ (f := 89) rfl ?_); refine gL_ (some 10) Tryz.func89 #[.int .i64 a0_0] rfl ?_; (with_reducible refine (isa_Shape.calls k a0_0 t237 _ A4.out).mono ?_); rintro e w' ⟨rfl, ⟨nd, rfl⟩⟩; refine ⟨_, rfl, ?_⟩))
  (try (rw [drewN_self w25]; generalize hq_ : World.drewN w25 _ = w25; replace BK235 : As_ (w25.heap[gb235]? = some (.cells #[.int .i64 a0_0, .int .i64 a0_1, .int .i64 a0_2, .int .i64 a0_3, .int .i64 a0_4, .string a0_5] 24 (0, 0))) := ⟨by rw [← hq_]; exact (rB_ BK235)⟩; replace HB : As_ (Below w.heap.size w w25) := ⟨by rw [← hq_]; exact (bs_ HB GE235)⟩; clear hq_))
  replace BK235 := aM_ (kD_ BK235.out); replace HB := aM_ (b1_ HB.out); refine start_ (n := 25) (S := fun w' => w'.cell? ⟨gb235, 0, none⟩ = some (.int .i64 a0_0) ∧ w'.cell? ⟨gb235, 1, none⟩ = some (.int .i64 a0_1) ∧ w'.cell? ⟨gb235, 2, none⟩ = some (.int .i64 a0_2) ∧ w'.cell? ⟨gb235, 3, none⟩ = some (.int .i64 a0_3) ∧ w'.cell? ⟨gb235, 4, none⟩ = some (.int .i64 a0_4) ∧ w'.cell? ⟨gb235, 5, none⟩ = some (.string a0_5)) (ds := []) (bm 25 0) (by kernel_rfl) rfl (by kernel_rfl) ⟨(bC_ BK235.out 0).trans rfl, (bC_ BK235.out 1).trans rfl, (bC_ BK235.out 2).trans rfl, (bC_ BK235.out 3).trans rfl, (bC_ BK235.out 4).trans rfl, (bC_ BK235.out 5).trans rfl⟩ (fun hHeld => ?_); refine with_tabW isa_IsIns.tab4 isa_IsIns.bits4 (fun HT_ HW_ => ?_); generalize w25.drew = w27 at BK235 HB hHeld ⊢; refine seq_ (k := 22) [(0, some 11, false), (2, some 13, false), (3, some 14, true)] (bm 25 13) rfl (seq_of HT_.out HW_.out (by kernel_rfl)) (fun _ _ _ _ _ h => h) hHeld ?_
  repeat (first | (refine SeqOn.pure (v := ?_) (a' := ?_) rfl rfl (Or.inl ⟨by kernel_rfl, ?_⟩) ?_ ?_; rotate_left 2; (focus (intro w'; go_simp; with_reducible rfl)); (focus exact pU_)) | (refine SeqOn.take (v := ?_) (a' := ?_) rfl rfl (Or.inl ⟨by kernel_rfl, ?_⟩) ?_ ?_; rotate_left 2; (focus (rintro w' ⟨s0, s1, s2, s3, s4, s5⟩; go_simp; with_reducible rfl)); (focus exact pU_)))
  refine SeqOn.nil ?_; refine one_ (i := 1) (N := some 12) (bm 25 15) rfl rfl (one_of HT_.out (by kernel_rfl)) (by decide) (fun K hK => ?_); refine gO_ Tryz.func91 #[.int .i64 t237] rfl ?_
  with_reducible refine (isa_HasD.calls t237 t238 _ A5.out).mono ?_
  rintro e w' ⟨rfl, ⟨nd, rfl⟩⟩; refine ⟨_, rfl, ?_⟩; refine hK.out _ _ ⟨(bC_ BK235.out 0).trans rfl, (bC_ BK235.out 1).trans rfl, (bC_ BK235.out 2).trans rfl, (bC_ BK235.out 3).trans rfl, (bC_ BK235.out 4).trans rfl, (bC_ BK235.out 5).trans rfl⟩ (fun hHeld => ?_); clear hK K; refine norm_ (a' := ?_) ?_ ?_; rotate_left
  ·show Act.put _ (some 12) _ = _; simp only [Act.put, List.setIfInBounds_toArray, List.set_cons_zero, List.set_cons_succ, i64_w, i32_w]; rfl
  refine one_ (i := 4) (N := some 15) (bm 25 31) rfl rfl (one_of HT_.out (by kernel_rfl)) (by decide) (fun K hK => ?_); refine gO_ Tryz.func90 #[.bool t238, .int .i64 a0_1] rfl ?_
  with_reducible refine (isa_reg.calls t238 a0_1 false _ A6.out).mono ?_
  rintro e w' ⟨rfl, ⟨nd, rfl⟩⟩; refine ⟨_, rfl, ?_⟩; refine hK.out _ _ ⟨(bC_ BK235.out 0).trans rfl, (bC_ BK235.out 1).trans rfl, (bC_ BK235.out 2).trans rfl, (bC_ BK235.out 3).trans rfl, (bC_ BK235.out 4).trans rfl, (bC_ BK235.out 5).trans rfl⟩ (fun hHeld => ?_); clear hK K; refine norm_ (a' := ?_) ?_ ?_; rotate_left
  ·show Act.put _ (some 15) _ = _; simp only [Act.put, List.setIfInBounds_toArray, List.set_cons_zero, List.set_cons_succ, i64_w, i32_w]; rfl
  refine pure_ (i := 5) (N := some 16) (v := ?_) (a' := ?_) (bm 25 63) rfl rfl (any_of HT_.out (by kernel_rfl)) (fun _ _ _ h => h) (Or.inl ⟨by rfl, ?_⟩) ?_ ?_; rotate_left
  ·intro w'
   go_simp
   with_reducible rfl
  rotate_left
  ·simp only [Act.put, List.setIfInBounds_toArray, List.set_cons_zero, List.set_cons_succ, i64_w, i32_w]; rfl
  refine offs_ (k := 14) (a' := ?_) [6, 7, 8, 9, 10] [some 17, some 18, some 19, some 20, some 21] (bm 25 2047) rfl rfl (off_of HT_.out (by kernel_rfl)) (by kernel_rfl) (fun _ _ _ _ _ h => h) ?_ ?_; rotate_left
  ·simp only [undefs, Act.put, List.setIfInBounds_toArray, List.set_cons_zero, List.set_cons_succ]; rfl
  refine seq_ (k := 12) [(11, some 22, false), (12, some 23, false)] (bm 25 8191) rfl (seq_of HT_.out HW_.out (by kernel_rfl)) (fun _ _ _ _ _ h => h) hHeld ?_
  repeat (first | (refine SeqOn.pure (v := ?_) (a' := ?_) rfl rfl (Or.inl ⟨by kernel_rfl, ?_⟩) ?_ ?_; rotate_left 2; (focus (intro w'; go_simp; with_reducible rfl)); (focus exact pU_)))
  refine SeqOn.nil ?_; refine offs_ (k := 7) (a' := ?_) [13, 14, 15, 16, 17] [some 24, some 25, some 26, some 27, some 28] (bm 25 262143) rfl rfl (off_of HT_.out (by kernel_rfl)) (by kernel_rfl) (fun _ _ _ _ _ h => h) ?_ ?_; rotate_left
  ·simp only [undefs, Act.put, List.setIfInBounds_toArray, List.set_cons_zero, List.set_cons_succ]; rfl
  refine seq_ (k := 5) [(18, some 29, false), (19, some 30, false)] (bm 25 1048575) rfl (seq_of HT_.out HW_.out (by kernel_rfl)) (fun _ _ _ _ _ h => h) hHeld ?_
  repeat (first | (refine SeqOn.pure (v := ?_) (a' := ?_) rfl rfl (Or.inl ⟨by kernel_rfl, ?_⟩) ?_ ?_; rotate_left 2; (focus (intro w'; go_simp; with_reducible rfl)); (focus exact pU_)))
  refine SeqOn.nil ?_; refine offs_ (k := 2) (a' := ?_) [20, 21, 22] [some 31, some 32, some 33] (bm 25 8388607) rfl rfl (off_of HT_.out (by kernel_rfl)) (by kernel_rfl) (fun _ _ _ _ _ h => h) ?_ ?_; rotate_left
  ·simp only [undefs, Act.put, List.setIfInBounds_toArray, List.set_cons_zero, List.set_cons_succ]; rfl
  refine seq_ (k := 0) [(23, some 34, false), (24, some 2, false)] (bm 25 33554431) rfl (seq_of HT_.out HW_.out (by kernel_rfl)) (fun _ _ _ _ _ h => h) hHeld ?_
  repeat (first | (refine SeqOn.pure (v := ?_) (a' := ?_) rfl rfl (Or.inl ⟨by kernel_rfl, ?_⟩) ?_ ?_; rotate_left 2; (focus (intro w'; go_simp; with_reducible rfl)); (focus exact pU_)))
  refine SeqOn.nil ?_; refine done_ (done_of HT_.out (by kernel_rfl)) ?_
  try go_wp2
  go_ret; exact ⟨eR_, bs_ HB GE235⟩
 replace c3 := eF_ c3; subst c3; rw [if_neg Bool.false_ne_true] at H; obtain rfl := oI_ H; go_enter Tryz.func59, Tryz.ntmps59
 go_wp2_with (first | ((with_reducible refine gate_dst (N := 1) rfl ?_); refine bX_ (N := 1) (cs := #[.int .i64 a0_0, .int .i64 a0_1, .int .i64 a0_2, .int .i64 a0_3, .int .i64 a0_4, .string a0_5]) (t := 24) ?_; intro gb235 hg w28 hbox hb; replace BK235 := aM_ (hbox); replace GW235 := aM_ (gE_ hg (bl_ HB)); replace GE235 := aM_ (gE_ hg (bl_ HB)); replace HB := aM_ (bT_ (bl_ HB) hb); clear hb hbox hg; obtain ⟨hcz29_0, hcz29_1, hcz29_2, hcz29_3, hcz29_4, hcz29_5⟩ := cl6_ BK235.out; obtain ⟨hfz29_0, hfz29_1, hfz29_2, hfz29_3, hfz29_4, hfz29_5⟩ := fz6_ BK235.out) | ((with_reducible refine gC_ (f := 83) rfl ?_); refine gL_ (some 6) Tryz.func83 #[.int .i64 a0_0] rfl ?_; (with_reducible refine (isa_Is.calls a0_0 false _ A2.out).mono ?_); rintro e w' ⟨rfl, ⟨nd, rfl⟩⟩; refine ⟨_, rfl, ?_⟩))
 go_ret; exact ⟨eR_, bs_ HB GE235⟩
def isa_Ends.f (a0 : Int) : Option (Bool) := if a0 ≥ 28 then (some (decide (a0 ≤ 33))) else (some false)
theorem isa_Ends.calls (a0 : Int) (r : Bool) (w : World) (h : isa_Ends.f a0 = some r) :
    Calls Tryz.prog 60 #[.int .i64 a0] w fun e w' => e = .returned (.bool r) ∧ Dr_ w w' := by
 have H : (if a0 ≥ 28 then (some (decide (a0 ≤ 33))) else (some false)) = some r := h; clear h
 by_cases c2 : a0 ≥ 28
 ·rw [if_pos c2] at H; have c2b0 := dE_ c2; clear c2; obtain rfl := oI_ H; go_enter Tryz.func60, Tryz.ntmps60; go_wp2; go_ret; exact ⟨eQ_, dR_⟩
 rw [if_neg c2] at H; have c2b0 := dF_ c2; clear c2; obtain rfl := oI_ H; go_enter Tryz.func60, Tryz.ntmps60; go_wp2; go_ret; exact ⟨eQ_, dR_⟩
mutual
def isa_Late.j0 : Nat → Int → Bool → Option (Int)
  | 0, _, _ => none
  | k + 1, x3, x4 => if x4 = true then (some 2) else (if x3 = 20 then (isa_Late.j1 k x3 (x3 == 20)) else (isa_Late.j1 k x3 (x3 == 24)))
def isa_Late.j1 : Nat → Int → Bool → Option (Int)
  | 0, _, _ => none
  | k + 1, x3, x8 => if x8 = true then (some 3) else (if x3 = 16 then (isa_Late.j2 k (x3 == 16)) else (isa_Late.j2 k (x3 == 17)))
def isa_Late.j2 : Nat → Bool → Option (Int)
  | 0, _ => none
  | k + 1, x11 => if x11 = true then (some 4) else (some 1)
end
def isa_Late.f (k : Nat) (a0 : Int) : Option (Int) := if a0 = 14 then (isa_Late.j0 k a0 (a0 == 14)) else (if a0 = 15 then (isa_Late.j0 k a0 (a0 == 15)) else (isa_Late.j0 k a0 (a0 == 26)))
theorem isa_Late.mono_l : ∀ k, (∀ y0 y1, LeO (isa_Late.j0 k y0 y1) (isa_Late.j0 (k + 1) y0 y1)) ∧ (∀ y0 y1, LeO (isa_Late.j1 k y0 y1) (isa_Late.j1 (k + 1) y0 y1)) ∧ (∀ y0, LeO (isa_Late.j2 k y0) (isa_Late.j2 (k + 1) y0))
  | 0 => ⟨fun _ _ r h => by simp [isa_Late.j0] at h, fun _ _ r h => by simp [isa_Late.j1] at h, fun _ r h => by simp [isa_Late.j2] at h⟩
  | k + 1 => by
    obtain ⟨ih0, ih1, ih2⟩ := isa_Late.mono_l k; refine ⟨?_, ?_, ?_⟩
    · intro y0 y1; unfold isa_Late.j0
      repeat' first
      | (with_reducible exact ih0 _ _)
      | (with_reducible exact ih1 _ _)
      | (with_reducible exact ih2 _)
      | (with_reducible exact LeO.refl _)
      | (with_reducible exact LeO.none _)
      | (with_reducible refine LeO.ite ?_ ?_)
      | (with_reducible refine LeO.bind ?_ (fun _ => ?_))
      | exact LeO.none _
      | refine LeO.ite ?_ ?_
      | refine LeO.bind ?_ (fun _ => ?_)
    · intro y0 y1; unfold isa_Late.j1
      repeat' first
      | (with_reducible exact ih0 _ _)
      | (with_reducible exact ih1 _ _)
      | (with_reducible exact ih2 _)
      | (with_reducible exact LeO.refl _)
      | (with_reducible exact LeO.none _)
      | (with_reducible refine LeO.ite ?_ ?_)
      | (with_reducible refine LeO.bind ?_ (fun _ => ?_))
      | exact LeO.none _
      | refine LeO.ite ?_ ?_
      | refine LeO.bind ?_ (fun _ => ?_)
    · intro y0; unfold isa_Late.j2
      repeat' first
      | (with_reducible exact ih0 _ _)
      | (with_reducible exact ih1 _ _)
      | (with_reducible exact ih2 _)
      | (with_reducible exact LeO.refl _)
      | (with_reducible exact LeO.none _)
      | (with_reducible refine LeO.ite ?_ ?_)
      | (with_reducible refine LeO.bind ?_ (fun _ => ?_))
      | exact LeO.none _
      | refine LeO.ite ?_ ?_
      | refine LeO.bind ?_ (fun _ => ?_)
theorem isa_Late.mono : ∀ a0 k, LeO (isa_Late.f k a0) (isa_Late.f (k + 1) a0) := by
 intro a0 k; obtain ⟨ih0, ih1, ih2⟩ := isa_Late.mono_l k; unfold isa_Late.f
 repeat' first
  | (with_reducible exact ih0 _ _)
  | (with_reducible exact ih1 _ _)
  | (with_reducible exact ih2 _)
  | (with_reducible exact LeO.refl _)
  | (with_reducible exact LeO.none _)
  | (with_reducible refine LeO.ite ?_ ?_)
  | (with_reducible refine LeO.bind ?_ (fun _ => ?_))
  | exact LeO.none _
  | refine LeO.ite ?_ ?_
  | refine LeO.bind ?_ (fun _ => ?_)
theorem isa_Late.calls (k : Nat) (a0 : Int) (r : Int) (w : World) (h : isa_Late.f k a0 = some r) :
    Calls Tryz.prog 95 #[.int .i64 a0] w fun e w' => e = .returned (.int .i64 r) ∧ Dr_ w w' := by
 have H : (if a0 = 14 then (isa_Late.j0 k a0 (a0 == 14)) else (if a0 = 15 then (isa_Late.j0 k a0 (a0 == 15)) else (isa_Late.j0 k a0 (a0 == 26)))) = some r := h; clear h; have HC2 := aM_ H; clear H; go_enter Tryz.func95, Tryz.ntmps95
 go_upto_if 4 with (fail)
 go_cut [4] (fun v4 wc => ∃ (kq : Nat) (x4_1 : Bool), v4 = .bool x4_1 ∧ As_ (isa_Late.j0 kq a0 x4_1 = some r) ∧ As_ (kq ≤ k) ∧ Dr_ w wc)
 case first =>
  have H := HC2.out; clear HC2
  by_cases c3 : a0 = 14
  ·rw [if_pos c3] at H; have c3b0 := bH_ c3; have c3b1 := bF_ c3; clear c3
   (first | rw [c3b0] | (simp only [i64_w, i32_w]; rw [c3b0]) | skip)
   replace H := aM_ H; go_wp2
   go_meet
   case rel => exact ⟨_, ((a0 == 14)), eQ_, H, ⟨by first | omega | exact Nat.le_refl _⟩, dR_⟩
  rw [if_neg c3] at H; have c3b0 := bE_ c3; have c3b1 := bG_ c3
  (first | rw [c3b0] | (simp only [i64_w, i32_w]; rw [c3b0]) | skip)
  by_cases c4 : a0 = 15
  ·rw [if_pos c4] at H; have c4b0 := bH_ c4; have c4b1 := bF_ c4; clear c4; replace H := aM_ H; go_wp2
   go_meet
   case rel => exact ⟨_, ((a0 == 15)), eQ_, H, ⟨by first | omega | exact Nat.le_refl _⟩, dR_⟩
  rw [if_neg c4] at H; have c4b0 := bE_ c4; have c4b1 := bG_ c4; replace H := aM_ H; go_wp2
  go_meet
  case rel => exact ⟨_, ((a0 == 26)), eQ_, H, ⟨by first | omega | exact Nat.le_refl _⟩, dR_⟩
 case rest =>
  clear HC2; obtain ⟨kq, x4_1, rfl, HA, HJ1, ⟨mc1, rfl⟩⟩ := hcut
  cases kq with
  | zero => exact absurd HA.out (by simp [isa_Late.j0])
  | succ kj1 =>
   have H := HA.out; clear HA; simp only [isa_Late.j0] at H
   by_cases c5 : x4_1 = true
   ·subst c5; rw [if_pos rfl] at H; obtain rfl := oI_ H; go_wp2; go_ret; exact ⟨eQ_, dR_⟩
   replace c5 := eF_ c5; subst c5; rw [if_neg Bool.false_ne_true] at H; have HC6 := aM_ H; clear H
   go_upto_if 8 with (fail)
   go_cut [8] (fun v8 wc => ∃ (kq : Nat) (x8_5 : Bool), v8 = .bool x8_5 ∧ As_ (isa_Late.j1 kq a0 x8_5 = some r) ∧ As_ (kq ≤ kj1) ∧ Dr_ w wc)
   case first =>
    have H := HC6.out; clear HC6
    by_cases c7 : a0 = 20
    ·rw [if_pos c7] at H; have c7b0 := bH_ c7; have c7b1 := bF_ c7; clear c7
     (first | rw [c7b0] | (simp only [i64_w, i32_w]; rw [c7b0]) | skip)
     replace H := aM_ H; go_wp2
     go_meet
     case rel => exact ⟨_, ((a0 == 20)), eQ_, H, ⟨by have := HJ1.out; first | omega | exact Nat.le_refl _⟩, dR_⟩
    rw [if_neg c7] at H; have c7b0 := bE_ c7; have c7b1 := bG_ c7
    (first | rw [c7b0] | (simp only [i64_w, i32_w]; rw [c7b0]) | skip)
    replace H := aM_ H; go_wp2
    go_meet
    case rel => exact ⟨_, ((a0 == 24)), eQ_, H, ⟨by have := HJ1.out; first | omega | exact Nat.le_refl _⟩, dR_⟩
   case rest =>
    clear HC6; obtain ⟨kq, x8_5, rfl, HA, HJ5, ⟨mc5, rfl⟩⟩ := hcut
    cases kq with
    | zero => exact absurd HA.out (by simp [isa_Late.j1])
    | succ kj5 =>
     have H := HA.out; clear HA; simp only [isa_Late.j1] at H
     by_cases c8 : x8_5 = true
     ·subst c8; rw [if_pos rfl] at H; obtain rfl := oI_ H; go_wp2; go_ret; exact ⟨eQ_, dR_⟩
     replace c8 := eF_ c8; subst c8; rw [if_neg Bool.false_ne_true] at H; have HC9 := aM_ H; clear H
     go_upto_if 11 with (fail)
     go_cut [11] (fun v11 wc => ∃ (kq : Nat) (x11_8 : Bool), v11 = .bool x11_8 ∧ As_ (isa_Late.j2 kq x11_8 = some r) ∧ As_ (kq ≤ kj5) ∧ Dr_ w wc)
     case first =>
      have H := HC9.out; clear HC9
      by_cases c10 : a0 = 16
      ·rw [if_pos c10] at H; have c10b0 := bH_ c10; have c10b1 := bF_ c10; clear c10
       (first | rw [c10b0] | (simp only [i64_w, i32_w]; rw [c10b0]) | skip)
       replace H := aM_ H; go_wp2
       go_meet
       case rel => exact ⟨_, ((a0 == 16)), eQ_, H, ⟨by have := HJ1.out; have := HJ5.out; first | omega | exact Nat.le_refl _⟩, dR_⟩
      rw [if_neg c10] at H; have c10b0 := bE_ c10; have c10b1 := bG_ c10
      (first | rw [c10b0] | (simp only [i64_w, i32_w]; rw [c10b0]) | skip)
      replace H := aM_ H; go_wp2
      go_meet
      case rel => exact ⟨_, ((a0 == 17)), eQ_, H, ⟨by have := HJ1.out; have := HJ5.out; first | omega | exact Nat.le_refl _⟩, dR_⟩
     case rest =>
      clear HC9; obtain ⟨kq, x11_8, rfl, HA, HJ8, ⟨mc8, rfl⟩⟩ := hcut
      cases kq with
      | zero => exact absurd HA.out (by simp [isa_Late.j2])
      | succ kj8 =>
       have H := HA.out; clear HA; simp only [isa_Late.j2] at H
       by_cases c11 : x11_8 = true
       ·subst c11; rw [if_pos rfl] at H; obtain rfl := oI_ H; go_wp2; go_ret; exact ⟨eQ_, dR_⟩
       replace c11 := eF_ c11; subst c11; rw [if_neg Bool.false_ne_true] at H; obtain rfl := oI_ H; go_wp2; go_ret; exact ⟨eQ_, dR_⟩
end Go.Proofs.YtibfkkjkahpobaaGreat.PDag
