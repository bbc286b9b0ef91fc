-- the texts that this claim needs, out of this session's and its print's (wip/shrink.py)
import Derived.Test.YtfnchdlgkkdegaaBackLaw0S
import Derived.Test.YtfnchdlgkkdegaaPAllx8S
import Derived.Test.YtfnchdlgkkdegaaPAllx11S
set_option linter.unusedVariables false
set_option linter.unusedSimpArgs false
namespace Go.Proofs.Ytfnchdlgkkdegaa.PAll
open Go.RowKit Go.Proofs.YtfnchdlgkkdegaaW.PrintWords Go.Proofs.YtfnchdlgkkdegaaW.PrintLast Go.Proofs.YtfnchdlgkkdegaaW.PrintMore
attribute [local go_sem] Oper.semAt_some
def back6.T9 : Bool × List (List Nat × List Nat) := (true, [([], []), ([0], [0]), ([1], [1]), ([2, 1], [2]), ([3], [3]), ([3], [3]), ([5, 3], [3, 5]), ([6, 3], [3, 6]), ([3], [3]), ([7, 8, 3], [3, 7, 8]), ([9, 3], [3, 9]), ([4, 10, 3], [3, 4, 10]), ([3, 11], [3, 11])])
def back6.B9 : List Nat := [0, 1, 3, 7, 15, 15, 47, 111, 15, 495, 1007, 2047, 4095]
theorem back6.tab9 : rtab .any (opsOf Try.f6 9) = back6.T9 := by kernel_rfl
theorem back6.bits9 : waitsOk back6.T9.2 back6.B9 = true := by kernel_rfl
def back6.T14 : Bool × List (List Nat × List Nat) := (true, [([], []), ([], []), ([0, 1], [0, 1]), ([2], [2]), ([], []), ([3, 4], [3, 4]), ([], []), ([], []), ([6, 7], [6, 7]), ([8], [8]), ([], []), ([9, 10], [9, 10]), ([5, 11], [5, 11])])
def back6.B14 : List Nat := [0, 0, 3, 7, 0, 31, 0, 0, 192, 448, 0, 1984, 4095]
theorem back6.tab14 : rtab .any (opsOf Try.f6 14) = back6.T14 := by kernel_rfl
theorem back6.bits14 : waitsOk back6.T14.2 back6.B14 = true := by kernel_rfl
def back6.T16 : Bool × List (List Nat × List Nat) := (true, [([], []), ([], []), ([1], [1]), ([0, 2], [0, 2]), ([], []), ([], []), ([5], [5]), ([4, 6, 3], [4, 6]), ([3, 7, 0, 1, 2, 3], [0, 3]), ([7, 8, 0, 1, 2, 3, 4, 5, 6, 7, 8], [4, 7])])
def back6.B16 : List Nat := [0, 0, 2, 7, 0, 0, 32, 127, 255, 511]
theorem back6.tab16 : rtab .any (opsOf Try.f6 16) = back6.T16 := by kernel_rfl
theorem back6.bits16 : waitsOk back6.T16.2 back6.B16 = true := by kernel_rfl
def back6.T23 : Bool × List (List Nat × List Nat) := (true, [([], []), ([0], [0]), ([1], [1]), ([], []), ([3], [3]), ([], []), ([4, 5, 1], [4, 5]), ([2, 6], [2, 6]), ([7, 6], [7]), ([8], [8]), ([9, 8, 8], [8, 9]), ([10, 8], [8, 10]), ([11, 10, 8], [8, 11]), ([12], [12]), ([13, 12], [12, 13]), ([14, 12], [12, 14]), ([12], [12]), ([15, 16, 12], [12, 15, 16]), ([12, 17, 8], [8, 12, 17]), ([8, 18], [8, 18])])
def back6.B23 : List Nat := [0, 1, 3, 0, 8, 0, 59, 127, 255, 511, 1023, 2047, 4095, 8191, 16383, 32767, 8191, 131071, 262143, 524287]
theorem back6.tab23 : rtab .any (opsOf Try.f6 23) = back6.T23 := by kernel_rfl
theorem back6.bits23 : waitsOk back6.T23.2 back6.B23 = true := by kernel_rfl
theorem bwakes_eq {k : Nat} (hk : 100 ≤ k) : w4_wakes.f k = some true :=
  at_rounds w4_wakes.mono hk (show w4_wakes.f 100 = some true by kernel_rfl)
set_option maxRecDepth 100000 in
set_option maxHeartbeats 16000000 in
theorem back_calls (A0_0 : Option Addr) (c0_0 : Nat) (l0_0 : List S35) (A0_1 : Option Addr) (n1 c0_1 : Nat) (A0_2 : Option Addr) (n2 c0_2 : Nat) (A0_3 : Option Addr) (n3 c0_3 : Nat) (A0_4 : Option Addr) (n4 c0_4 : Nat) (w : World) (hr : Kd.C k35 w A0_0 l0_0.length l0_0) :
    Calls Try.prog 6 #[.agg #[.slice A0_0 l0_0.length c0_0, .slice A0_1 n1 c0_1, .slice A0_2 n2 c0_2, .slice A0_3 n3 c0_3, .slice A0_4 n4 c0_4]] w fun e w' => e = .returned (.bool true) ∧ Below w.heap.size w w' := by
 have hu32 := Try.underlying32
 have hu35 := Try.underlying35
 have hu52 := Try.underlying52
 have HR := As_.mk hr
 have HWK := As_.mk (fun W => w4_wakes.calls 100 true W (bwakes_eq (Nat.le_refl _)))
 clear hr
 go_enter Try.func6, Try.ntmps6
 go_wp2_with (first | ((with_reducible refine gate_dst (N := 1) rfl ?_); refine box_event ?hg (N := 1) ?hd (cs := #[.slice A0_0 l0_0.length c0_0, .slice A0_1 n1 c0_1, .slice A0_2 n2 c0_2, .slice A0_3 n3 c0_3, .slice A0_4 n4 c0_4]) (t := 32) ?hr ?_; (case hd => rfl); (case hg => rfl); (case hr => first | (go_simp; done) | (go_simp; rfl)); intro gb195 hg w2 hbox hb; have HB := As_.mk hb; have BK195 := As_.mk hbox; have GE195 := As_.mk (show w.heap.size ≤ gb195 from by rw [hg]; exact Nat.le_refl _); clear hb hbox hg))
 go_loopw [3, 4, 5] (fun v3 v4 i wr => ∃ (j : Nat) (xs : List S35), j ≤ 20 ∧ xs.length ≤ j ∧ i = .int .i64 j ∧ As_ (∀ x ∈ xs, good x = true) ∧ As_ (Kd.R (Kd.int .u32) 33 wr w.heap.size (fun _ => True) v3 (xs.map wordX)) ∧ As_ (Kd.R k35 35 wr w.heap.size (fun _ => True) v4 xs) ∧ As_ (wr.heap[gb195]? = some (.cells #[.slice A0_0 l0_0.length c0_0, .slice A0_1 n1 c0_1, .slice A0_2 n2 c0_2, .slice A0_3 n3 c0_3, .slice A0_4 n4 c0_4] 32 (0, 0))) ∧ As_ (Below w.heap.size w wr)) (fun _ _ i _ => 20 - (intOf i).toNat)
 case atStart => exact ⟨0, [], by omega, Nat.le_refl _, rfl, ⟨fun x hx => by cases hx⟩, ⟨Kd.R_nil _ _ _ _ _⟩, ⟨Kd.R_nil _ _ _ _ _⟩, ⟨BK195.out⟩, ⟨HB.out⟩⟩
 case round =>
  clear BK195 HB
  obtain ⟨j, xs, hj, hxl, rfl, HG, HO_3, HO_4, BK195, HB⟩ := hrel
  have x0 : wr.cell? ⟨gb195, 0, none⟩ = some (.slice A0_0 l0_0.length c0_0) := (bC_ BK195.out 0).trans rfl
  have p1 : ((0 : Int) ≤ (j : Int)) = True := eq_true (Int.natCast_nonneg _)
  by_cases hlt : j < l0_0.length
  ·have q1 : ((j : Int) < (l0_0.length : Int)) = True := eq_true (by omega)
   have q2 : (j < l0_0.length) = True := eq_true hlt
   by_cases h20 : j < 20
   ·have q3 : ((j : Int) < 20) = True := eq_true (by omega)
    have q4 : (j < 20) = True := eq_true h20
    have HLT := As_.mk hlt
    have H20 := As_.mk h20
    have HXL := As_.mk hxl
    have hw2 : wrap64 ((j : Int) + 1) = ((j + 1 : Nat) : Int) := by unfold wrap64; omega
    obtain ⟨ad197, _, e197, _⟩ := Kd.C_get HR.out z35 (j : Int) (Int.natCast_nonneg _) (by omega)
    subst e197
    have HL35 := As_.mk (load_row (Kd.C_below HR.out HB.out) j hlt)
    clear hlt h20 hj hxl
    generalize hx : J35 l0_0 j = x at HL35
    have HX := As_.mk hx
    clear hx
    cases hg : good x with
    | false =>
     have hne := word_bad hg
     have HWD := As_.mk (fun W => word_calls x W)
     rw [if_neg (by rw [hg]; decide)] at HWD
     generalize (if good x = true then 0 else if insOk x.f0 x.f1 x.f2 x.f3 x.f4 x.f5 = true then 6 else 1 : Int) = er at hne HWD
     have hne2 : (er != 0) = true := by rw [bne, hne]; rfl
     clear hg
     go_wp2_with (first | ((with_reducible refine gate_dst (N := 33) rfl ?_); refine val_event (N := 33) (w1 := wr) (v := .agg (insC x).toArray) ?hg ?hd ?hr ?_; (case hd => rfl); (case hg => rfl); (case hr => exact exec_load rfl rfl HL35.out)) | (go_at_call 8; refine (HWD.out _).mono ?_; rintro e w3 ⟨rfl, hb⟩; have HB3 := As_.mk hb; clear hb) | (go_at_call 11; refine (w4_num.calls er er _ rfl).mono ?_; rintro e w' ⟨rfl, ⟨nd, rfl⟩⟩; have HB4 := As_.mk (bN_ HB3.out nd)))
     refine ⟨⟨j + 1, xs, by have := H20.out; omega, by have := HXL.out; omega, by congr 1, ⟨HG.out⟩, ⟨Kd.R_below HO_3.out HB4.out⟩, ⟨Kd.R_below HO_4.out HB4.out⟩, ⟨kB_ BK195.out HB4.out⟩, ⟨HB.out.trans (HB4.out.mono HB.out.size)⟩⟩, ?_⟩
     rw [hw2]
     show 20 - (((j + 1 : Nat) : Int)).toNat < 20 - ((j : Nat) : Int).toNat
     rw [Int.toNat_natCast, Int.toNat_natCast]
     have := H20.out
     omega
    | true =>
     have hbk := good_back hg
     obtain ⟨huw, hiw, hun, hop⟩ := hbk
     obtain ⟨t198, ht198⟩ : ∃ t, t = wordX x := ⟨_, rfl⟩
     have hopr := isWord_op hiw
     rw [hop] at hopr
     rw [← ht198] at huw hiw hun
     have HWD := As_.mk (fun W => word_calls x W)
     rw [if_pos hg, if_pos hg, ← ht198] at HWD
     have HIN : As_ (∀ W, Calls Try.prog 12 #[.int .u32 t198] W fun e w' => e = .returned (.tuple #[.agg (insC x).toArray, .int .i64 0]) ∧ Below W.heap.size W w') := ⟨fun W => by have h := ins_calls t198 huw W; rw [hun, hiw, if_pos rfl] at h; exact h⟩
     have HUW := As_.mk huw
     have HGX := As_.mk hg
     have HT := As_.mk ht198
     have HOP := As_.mk hopr
     clear huw hiw hun hop hopr hg ht198
     rename World => wo
     obtain ⟨Ao40, co40, eo40⟩ := Kd.R_slice HO_3.out
     rw [List.length_map] at eo40
     subst eo40
     obtain ⟨Ao41, co41, eo41⟩ := Kd.R_slice HO_4.out
     subst eo41
     go_wp2_with (first | ((with_reducible refine gate_dst (N := 33) rfl ?_); refine val_event (N := 33) (w1 := wo) (v := .agg (insC x).toArray) ?hg ?hd ?hr ?_; (case hd => rfl); (case hg => rfl); (case hr => exact exec_load rfl rfl HL35.out)) | (go_at_call 8; refine (HWD.out _).mono ?_; rintro e w3 ⟨rfl, hb⟩; have HB3 := As_.mk hb; clear hb) | (go_at_call 11; refine (w4_num.calls 0 0 _ rfl).mono ?_; rintro e w' ⟨rfl, ⟨nd, rfl⟩⟩; have HB4 := As_.mk (bN_ HB3.out nd); generalize World.drewN w3 nd = w4 at HB4 ⊢; clear HB3) | (go_at_call 12; refine (HIN.out _).mono ?_; rintro e w5 ⟨rfl, hb⟩; have HB5 := As_.mk (HB4.out.trans (hb.mono HB4.out.size)); clear hb) | ((with_reducible refine gate_dst (N := 8) rfl ?_); refine box_event ?hg (N := 8) ?hd (cs := (insC z35).toArray) (t := 35) ?hr ?_; (case hd => rfl); (case hg => rfl); (case hr => first | (go_simp; done) | (go_simp; rfl)); intro gb208 hg8 w6 hbox hb; have HB6 := As_.mk (HB5.out.trans (hb.mono HB5.out.size)); have BK6 := As_.mk hbox; have GE208 := As_.mk (show wo.heap.size ≤ gb208 from by rw [hg8]; exact HB5.out.size); clear hbox hb hg8) | ((with_reducible refine gate_store (t := 35) (p := 8) rfl ?_); obtain ⟨h7a, h7b⟩ := box35 BK6.out x; have H7A := As_.mk h7a; have H7B := As_.mk h7b; clear h7a h7b; refine store_event (t := 35) (p := 8) (v := .tmp 43) (w1 := w6.setCells gb208 0 (insC x)) ?hg ?ho ?hn ?hr ?_; (case ho => rfl); (case hg => rfl); (case hn => rfl); (case hr => exact exec_store rfl rfl rfl H7B.out); intro w7 hw_; have BK208 := As_.mk (at_ hw_ H7A.out); have HB7 := As_.mk (bset_ hw_ HB6.out HB6.out.size GE208.out); clear hw_ H7A H7B))
     refine start_ (n := 13) (S := fun w' => w'.heap[gb208]? = some (.cells (insC x).toArray 35 (0, 0)) ∧ w'.cell? ⟨gb195, 0, none⟩ = some (.slice (some ad197) l0_0.length c0_0) ∧ Kd.C k35 w' (some ad197) l0_0.length l0_0) (ds := []) (bm 13 0) (by kernel_rfl) rfl (by kernel_rfl) ⟨kD_ BK208.out, (bC_ (kB_ BK195.out (b1_ HB7.out)) 0).trans rfl, Kd.C_below HR.out (HB.out.trans ((b1_ HB7.out).mono HB.out.size))⟩ (fun hHeld => ?_); refine with_tabW back6.tab9 back6.bits9 (fun HT_ HW_ => ?_)
     have BK8 := As_.mk (kD_ BK208.out)
     have HB8 := As_.mk (b1_ HB7.out)
     clear BK208 HB7
     generalize w7.drew = w8 at BK8 HB8 hHeld ⊢
     refine seq_ (k := 12) [(0, some 45, false)] (bm 13 1) rfl (seq_of HT_.out HW_.out (by kernel_rfl)) (fun _ _ _ _ _ h => h) hHeld ?_
     (refine SeqOn.pure (v := ?_) (a' := ?_) rfl rfl (Or.inl ⟨by kernel_rfl, ?_⟩) ?_ ?_; rotate_left 2; (focus (intro w'; go_simp; with_reducible rfl)); (focus (first | (simp only [Act.put, List.setIfInBounds_toArray, List.set_cons_zero, List.set_cons_succ, i64_w, i32_w]; rfl) | rfl)))
     refine SeqOn.nil ?_
     refine one_ (i := 1) (N := some 46) (bm 13 3) rfl rfl (one_of HT_.out (by kernel_rfl)) (by decide) (fun K hK => ?_)
     refine goes_ Try.func11 (by kernel_rfl) rfl #[.int .i64 0] (by rfl) rfl rfl (by (try simp only [List.map_toArray, List.map_cons, List.map_nil]); first | done | rfl) ?_
     with_reducible refine (w4_num.calls 0 0 _ rfl).mono ?_
     rintro e w' ⟨rfl, ⟨nd, rfl⟩⟩
     refine ⟨_, rfl, ?_⟩
     refine hK.out _ _ ⟨kN_ BK8.out nd, (bC_ (kB_ BK195.out (bN_ HB8.out nd)) 0).trans rfl, Kd.C_below HR.out (HB.out.trans ((bN_ HB8.out nd).mono HB.out.size))⟩ (fun hHeld => ?_)
     clear hK K
     have BK208 := As_.mk (kN_ BK8.out nd)
     have HB9 := As_.mk (bN_ HB8.out nd)
     clear BK8 HB8
     generalize World.drewN w8 nd = w9 at BK208 HB9 hHeld ⊢
     refine norm_ (a' := ?_) ?_ ?_
     rotate_left
     ·show Act.put _ (some 46) _ = _
      simp only [Act.put, List.setIfInBounds_toArray, List.set_cons_zero, List.set_cons_succ, i64_w, i32_w]
      rfl
     refine seq_ (k := 0) [(2, some 47, false), (3, some 48, false), (5, some 50, false), (6, some 51, false), (8, some 53, false), (4, some 49, true), (7, some 52, true), (9, some 54, false), (10, some 55, true), (11, some 56, false), (12, some 57, false)] (bm 13 8191) rfl (seq_of HT_.out HW_.out (by kernel_rfl)) (fun _ _ _ _ _ h => h) hHeld ?_
     iterate 5 (refine SeqOn.pure (v := ?_) (a' := ?_) rfl rfl (Or.inl ⟨by kernel_rfl, ?_⟩) ?_ ?_; rotate_left 2; (focus (intro w'; go_simp; with_reducible rfl)); (focus (first | (simp only [Act.put, List.setIfInBounds_toArray, List.set_cons_zero, List.set_cons_succ, i64_w, i32_w]; rfl) | rfl)))
     (refine SeqOn.take (v := .agg (insC x).toArray) (a' := ?_) rfl rfl (Or.inl ⟨by kernel_rfl, ?_⟩) ?_ ?_; rotate_left; (focus (rintro w' ⟨s0, s1, s2⟩; exact exec_load rfl rfl (load35 s0))); (focus (first | (simp only [Act.put, List.setIfInBounds_toArray, List.set_cons_zero, List.set_cons_succ, i64_w, i32_w]; rfl) | rfl)))
     (refine SeqOn.take (v := ?_) (a' := ?_) rfl rfl (Or.inl ⟨by kernel_rfl, ?_⟩) ?_ ?_; rotate_left 2; (focus (rintro w' ⟨s0, s1, s2⟩; go_simp; with_reducible rfl)); (focus (first | (simp only [Act.put, List.setIfInBounds_toArray, List.set_cons_zero, List.set_cons_succ, i64_w, i32_w]; rfl) | rfl)))
     (refine SeqOn.pure (v := ?_) (a' := ?_) rfl rfl (Or.inl ⟨by kernel_rfl, ?_⟩) ?_ ?_; rotate_left 2; (focus (intro w'; go_simp; with_reducible rfl)); (focus (first | (simp only [Act.put, List.setIfInBounds_toArray, List.set_cons_zero, List.set_cons_succ, i64_w, i32_w]; rfl) | rfl)))
     (refine SeqOn.take (v := .agg (insC x).toArray) (a' := ?_) rfl rfl (Or.inl ⟨by kernel_rfl, ?_⟩) ?_ ?_; rotate_left; (focus (rintro w' ⟨s0, s1, s2⟩; exact exec_load rfl rfl (by rw [← HX.out]; exact load_row s2 j HLT.out))); (focus (first | (simp only [Act.put, List.setIfInBounds_toArray, List.set_cons_zero, List.set_cons_succ, i64_w, i32_w]; rfl) | rfl)))
     (refine SeqOn.pure (v := .bool false) (a' := ?_) rfl rfl (Or.inl ⟨by kernel_rfl, ?_⟩) ?_ ?_; rotate_left; (focus (intro w'; exact exec_bin rfl rfl rfl (guard35 _ (Or.inr rfl) _ _ _ _ _) (by have h_ := run_neq35 x x w'; rw [eqI_refl] at h_; exact h_))); (focus (first | (simp only [Act.put, List.setIfInBounds_toArray, List.set_cons_zero, List.set_cons_succ, i64_w, i32_w]; rfl) | rfl)))
     (refine SeqOn.pure (v := ?_) (a' := ?_) rfl rfl (Or.inl ⟨by kernel_rfl, ?_⟩) ?_ ?_; rotate_left 2; (focus (intro w'; go_simp; with_reducible rfl)); (focus (first | (simp only [Act.put, List.setIfInBounds_toArray, List.set_cons_zero, List.set_cons_succ, i64_w, i32_w]; rfl) | rfl)))
     refine SeqOn.nil ?_
     refine done_ (done_of HT_.out (by kernel_rfl)) ?_
     clear HT_ HW_ hHeld
     go_wp2
     go_loopw [10] (fun v10 wr => ∃ k : Nat, k ≤ xs.length ∧ v10 = .int .i64 k ∧ As_ (Below w9.heap.size w9 wr)) (fun v10 _ => xs.length - (intOf v10).toNat)
     case atStart => exact ⟨0, Nat.zero_le _, rfl, ⟨Below.refl _ _⟩⟩
     case round =>
      obtain ⟨k, hk, rfl, HBk⟩ := hrel
      have HBR := As_.mk (HB9.out.trans (HBk.out.mono HB9.out.size))
      have BK8 := As_.mk (kB_ BK208.out HBk.out)
      by_cases hkl : k < xs.length
      ·have hCw := (Kd.R_reads' (Kd.R_below HO_3.out HBR.out)).2.2
       rw [List.length_map] at hCw
       obtain ⟨adw, ew, hw1⟩ := Kd.at_int hCw (k : Int) (Int.natCast_nonneg _) (by omega)
       subst ew
       rw [Int.toNat_natCast, rd_map xs k hkl] at hw1
       have hCy := (Kd.R_reads' (Kd.R_below HO_4.out HBR.out)).2.2
       obtain ⟨ady, _, ey, _⟩ := Kd.C_get hCy z35 (k : Int) (Int.natCast_nonneg _) (by omega)
       subst ey
       have hgy : good (J35 xs k) = true := HG.out _ (by unfold J35; rw [Int.toNat_natCast, List.getD_eq_getElem?_getD, List.getElem?_eq_getElem hkl]; exact List.getElem_mem hkl)
       have hE := eq_word HGX.out hgy
       rw [← HT.out] at hE
       have HKL := As_.mk hkl
       have HCY := As_.mk hCy
       have p5 : ((0 : Int) ≤ (k : Int)) = True := eq_true (Int.natCast_nonneg _)
       have q5 : ((k : Int) < (xs.length : Int)) = True := eq_true (by omega)
       have q6 : (k < xs.length) = True := eq_true hkl
       have hw3 : wrap64 ((k : Int) + 1) = ((k + 1 : Nat) : Int) := by have := HXL.out; have := H20.out; unfold wrap64; omega
       have HW1 := As_.mk hw1
       clear hCw hCy hkl hk hgy hw1
       generalize hyy : wordX (J35 xs k) = wy at HW1 hE
       clear hyy
       cases hq : eqI (J35 xs k) x with
       | true =>
        rw [hq] at hE
        have HQ := As_.mk hq
        clear hq
        go_wp2
        refine start_ (n := 13) (S := fun w' => w'.cell? (adw.add k) = some (.int .u32 wy) ∧ Kd.C k35 w' (some ady) xs.length xs ∧ w'.heap[gb208]? = some (.cells (insC x).toArray 35 (0, 0))) (ds := []) (bm 13 0) (by kernel_rfl) rfl (by kernel_rfl) ⟨HW1.out, Kd.C_drew HCY.out, kD_ BK8.out⟩ (fun hHeld => ?_); refine with_tabW back6.tab14 back6.bits14 (fun HT_ HW_ => ?_)
        refine seq_ (k := 0) [(0, some 64, false), (1, some 65, false), (2, some 66, false), (4, some 68, false), (6, some 70, false), (7, some 71, false), (8, some 72, false), (3, some 67, true), (5, some 69, false), (9, some 73, true), (10, some 74, true), (11, some 75, false), (12, some 76, false)] (bm 13 8191) rfl (seq_of HT_.out HW_.out (by kernel_rfl)) (fun _ _ _ _ _ h => h) hHeld ?_
        iterate 7 (refine SeqOn.pure (v := ?_) (a' := ?_) rfl rfl (Or.inl ⟨by kernel_rfl, ?_⟩) ?_ ?_; rotate_left 2; (focus (intro w'; go_simp; with_reducible rfl)); (focus (first | (simp only [Act.put, List.setIfInBounds_toArray, List.set_cons_zero, List.set_cons_succ, i64_w, i32_w]; rfl) | rfl)))
        (refine SeqOn.take (v := ?_) (a' := ?_) rfl rfl (Or.inl ⟨by kernel_rfl, ?_⟩) ?_ ?_; rotate_left 2; (focus (rintro w' ⟨s0, s1, s2⟩; go_simp; with_reducible rfl)); (focus (first | (simp only [Act.put, List.setIfInBounds_toArray, List.set_cons_zero, List.set_cons_succ, i64_w, i32_w]; rfl) | rfl)))
        (refine SeqOn.pure (v := ?_) (a' := ?_) rfl rfl (Or.inl ⟨by kernel_rfl, ?_⟩) ?_ ?_; rotate_left 2; (focus (intro w'; go_simp; with_reducible rfl)); (focus (first | (simp only [Act.put, List.setIfInBounds_toArray, List.set_cons_zero, List.set_cons_succ, i64_w, i32_w]; rfl) | rfl)))
        (refine SeqOn.take (v := .agg (insC (J35 xs k)).toArray) (a' := ?_) rfl rfl (Or.inl ⟨by kernel_rfl, ?_⟩) ?_ ?_; rotate_left; (focus (rintro w' ⟨s0, s1, s2⟩; exact exec_load rfl rfl (load_row s1 k HKL.out))); (focus (first | (simp only [Act.put, List.setIfInBounds_toArray, List.set_cons_zero, List.set_cons_succ, i64_w, i32_w]; rfl) | rfl)))
        (refine SeqOn.take (v := .agg (insC x).toArray) (a' := ?_) rfl rfl (Or.inl ⟨by kernel_rfl, ?_⟩) ?_ ?_; rotate_left; (focus (rintro w' ⟨s0, s1, s2⟩; exact exec_load rfl rfl (load35 s2))); (focus (first | (simp only [Act.put, List.setIfInBounds_toArray, List.set_cons_zero, List.set_cons_succ, i64_w, i32_w]; rfl) | rfl)))
        (refine SeqOn.pure (v := .bool true) (a' := ?_) rfl rfl (Or.inl ⟨by kernel_rfl, ?_⟩) ?_ ?_; rotate_left; (focus (intro w'; exact exec_bin rfl rfl rfl (guard35 _ (Or.inl rfl) _ _ _ _ _) (by have h_ := run_eql35 (J35 xs k) x w'; rw [HQ.out] at h_; exact h_))); (focus (first | (simp only [Act.put, List.setIfInBounds_toArray, List.set_cons_zero, List.set_cons_succ, i64_w, i32_w]; rfl) | rfl)))
        (refine SeqOn.pure (v := ?_) (a' := ?_) rfl rfl (Or.inl ⟨by kernel_rfl, ?_⟩) ?_ ?_; rotate_left 2; (focus (intro w'; go_simp; with_reducible rfl)); (focus (first | (simp only [Act.put, List.setIfInBounds_toArray, List.set_cons_zero, List.set_cons_succ, i64_w, i32_w]; rfl) | rfl)))
        refine SeqOn.nil ?_
        refine done_ (done_of HT_.out (by kernel_rfl)) ?_
        clear HT_ HW_ hHeld
        go_wp2
        refine ⟨⟨k + 1, by have := HKL.out; omega, by congr 1, ⟨b1_ HBk.out⟩⟩, ?_⟩
        rw [hw3]
        show xs.length - (((k + 1 : Nat) : Int)).toNat < xs.length - ((k : Nat) : Int).toNat
        rw [Int.toNat_natCast, Int.toNat_natCast]
        have := HKL.out
        omega
       | false =>
        rw [hq] at hE
        have HQ := As_.mk hq
        clear hq
        go_wp2
        refine start_ (n := 13) (S := fun w' => w'.cell? (adw.add k) = some (.int .u32 wy) ∧ Kd.C k35 w' (some ady) xs.length xs ∧ w'.heap[gb208]? = some (.cells (insC x).toArray 35 (0, 0))) (ds := []) (bm 13 0) (by kernel_rfl) rfl (by kernel_rfl) ⟨HW1.out, Kd.C_drew HCY.out, kD_ BK8.out⟩ (fun hHeld => ?_); refine with_tabW back6.tab14 back6.bits14 (fun HT_ HW_ => ?_)
        refine seq_ (k := 0) [(0, some 64, false), (1, some 65, false), (2, some 66, false), (4, some 68, false), (6, some 70, false), (7, some 71, false), (8, some 72, false), (3, some 67, true), (5, some 69, false), (9, some 73, true), (10, some 74, true), (11, some 75, false), (12, some 76, false)] (bm 13 8191) rfl (seq_of HT_.out HW_.out (by kernel_rfl)) (fun _ _ _ _ _ h => h) hHeld ?_
        iterate 7 (refine SeqOn.pure (v := ?_) (a' := ?_) rfl rfl (Or.inl ⟨by kernel_rfl, ?_⟩) ?_ ?_; rotate_left 2; (focus (intro w'; go_simp; with_reducible rfl)); (focus (first | (simp only [Act.put, List.setIfInBounds_toArray, List.set_cons_zero, List.set_cons_succ, i64_w, i32_w]; rfl) | rfl)))
        (refine SeqOn.take (v := ?_) (a' := ?_) rfl rfl (Or.inl ⟨by kernel_rfl, ?_⟩) ?_ ?_; rotate_left 2; (focus (rintro w' ⟨s0, s1, s2⟩; go_simp; with_reducible rfl)); (focus (first | (simp only [Act.put, List.setIfInBounds_toArray, List.set_cons_zero, List.set_cons_succ, i64_w, i32_w]; rfl) | rfl)))
        (refine SeqOn.pure (v := ?_) (a' := ?_) rfl rfl (Or.inl ⟨by kernel_rfl, ?_⟩) ?_ ?_; rotate_left 2; (focus (intro w'; go_simp; with_reducible rfl)); (focus (first | (simp only [Act.put, List.setIfInBounds_toArray, List.set_cons_zero, List.set_cons_succ, i64_w, i32_w]; rfl) | rfl)))
        (refine SeqOn.take (v := .agg (insC (J35 xs k)).toArray) (a' := ?_) rfl rfl (Or.inl ⟨by kernel_rfl, ?_⟩) ?_ ?_; rotate_left; (focus (rintro w' ⟨s0, s1, s2⟩; exact exec_load rfl rfl (load_row s1 k HKL.out))); (focus (first | (simp only [Act.put, List.setIfInBounds_toArray, List.set_cons_zero, List.set_cons_succ, i64_w, i32_w]; rfl) | rfl)))
        (refine SeqOn.take (v := .agg (insC x).toArray) (a' := ?_) rfl rfl (Or.inl ⟨by kernel_rfl, ?_⟩) ?_ ?_; rotate_left; (focus (rintro w' ⟨s0, s1, s2⟩; exact exec_load rfl rfl (load35 s2))); (focus (first | (simp only [Act.put, List.setIfInBounds_toArray, List.set_cons_zero, List.set_cons_succ, i64_w, i32_w]; rfl) | rfl)))
        (refine SeqOn.pure (v := .bool false) (a' := ?_) rfl rfl (Or.inl ⟨by kernel_rfl, ?_⟩) ?_ ?_; rotate_left; (focus (intro w'; exact exec_bin rfl rfl rfl (guard35 _ (Or.inl rfl) _ _ _ _ _) (by have h_ := run_eql35 (J35 xs k) x w'; rw [HQ.out] at h_; exact h_))); (focus (first | (simp only [Act.put, List.setIfInBounds_toArray, List.set_cons_zero, List.set_cons_succ, i64_w, i32_w]; rfl) | rfl)))
        (refine SeqOn.pure (v := ?_) (a' := ?_) rfl rfl (Or.inl ⟨by kernel_rfl, ?_⟩) ?_ ?_; rotate_left 2; (focus (intro w'; go_simp; with_reducible rfl)); (focus (first | (simp only [Act.put, List.setIfInBounds_toArray, List.set_cons_zero, List.set_cons_succ, i64_w, i32_w]; rfl) | rfl)))
        refine SeqOn.nil ?_
        refine done_ (done_of HT_.out (by kernel_rfl)) ?_
        clear HT_ HW_ hHeld
        go_wp2
        refine ⟨⟨k + 1, by have := HKL.out; omega, by congr 1, ⟨b1_ HBk.out⟩⟩, ?_⟩
        rw [hw3]
        show xs.length - (((k + 1 : Nat) : Int)).toNat < xs.length - ((k : Nat) : Int).toNat
        rw [Int.toNat_natCast, Int.toNat_natCast]
        have := HKL.out
        omega
      obtain rfl : k = xs.length := by omega
      have q5 : ((xs.length : Int) < (xs.length : Int)) = False := eq_false (by omega)
      have q6 : (xs.length < xs.length) = False := eq_false (by omega)
      go_wp2
      have HOx := As_.mk (Kd.R_below HO_3.out HBR.out)
      have HOy := As_.mk (Kd.R_below (Kd.R_mono (Kd.R_elderB HO_4.out gb208 GE208.out) (fun _ h_ => h_.2)) HBR.out)
      have BKx : As_ (wr.heap[gb195]? = some (.cells #[.slice (some ad197) l0_0.length c0_0, .slice A0_1 n1 c0_1, .slice A0_2 n2 c0_2, .slice A0_3 n3 c0_3, .slice A0_4 n4 c0_4] 32 (0, 0))) := ⟨kB_ BK195.out HBR.out⟩
      have BKy : As_ (wr.heap[gb208]? = some (.cells #[.int .i64 x.f0, .int .i64 x.f1, .int .i64 x.f2, .int .i64 x.f3, .int .i64 x.f4, .string x.f5] 35 (0, 0))) := ⟨BK8.out⟩
      have HBx := As_.mk (HB.out.trans (HBR.out.mono HB.out.size))
      have GEx := As_.mk (Nat.le_trans HB.out.size GE208.out)
      clear HO_3 HO_4 BK195 BK208 BK8 HB GE208 HBR HBk HB9 q5 q6 hkl hk
      have HO_3 := HOx
      have HO_4 := HOy
      have BK195 := BKx
      have BK208 := BKy
      have HB := HBx
      have GE208 := GEx
      clear HOx HOy BKx BKy HBx GEx
      obtain ⟨x3_1, hx31⟩ : ∃ l, l = xs.map wordX := ⟨_, rfl⟩
      rw [← hx31] at HO_3
      have HX31 := As_.mk hx31
      have LMc38 : As_ (x3_1.length + 1 < 30) := ⟨by rw [hx31, List.length_map]; have := HXL.out; have := H20.out; omega⟩
      have LMc39 : As_ (xs.length + 1 < 30) := ⟨by have := HXL.out; have := H20.out; omega⟩
      clear hx31
      obtain ⟨y213, hy213⟩ : ∃ l : List Int, l = [t198] := ⟨_, rfl⟩
      have Ny213 := As_.mk hy213
      have hl213 : y213.length = 1 := by rw [hy213]; rfl
      have HL213 := As_.mk hl213
      clear hy213 hl213
      obtain ⟨y216, hy216⟩ : ∃ l : List Int, l = x3_1 ++ y213 := ⟨_, rfl⟩
      have Ny216 := As_.mk hy216
      clear hy216
      obtain ⟨y219, hy219⟩ : ∃ l : List S35, l = [(⟨x.f0, x.f1, x.f2, x.f3, x.f4, x.f5⟩ : S35)] := ⟨_, rfl⟩
      have Ny219 := As_.mk hy219
      have hl219 : y219.length = 1 := by rw [hy219]; rfl
      have HL219 := As_.mk hl219
      clear hy219 hl219
      obtain ⟨y222, hy222⟩ : ∃ l : List S35, l = xs ++ y219 := ⟨_, rfl⟩
      have Ny222 := As_.mk hy222
      clear hy222
      have n0_ := As_.mk (Kd.R_drew HO_3.out)
      have n1_ := As_.mk (Kd.R_drew HO_4.out)
      have n2_ := As_.mk (kD_ BK195.out)
      have n3_ := As_.mk (kD_ BK208.out)
      have n4_ := As_.mk (b1_ HB.out)
      clear HO_3
      clear HO_4
      clear BK195
      clear BK208
      clear HB
      have HO_3 := n0_
      have HO_4 := n1_
      have BK195 := n2_
      have BK208 := n3_
      have HB := n4_
      clear n0_ n1_ n2_ n3_ n4_
      refine start_ (n := 10) (S := fun w' => w'.cell? ⟨gb208, 0, none⟩ = some (.int .i64 x.f0) ∧ w'.cell? ⟨gb208, 1, none⟩ = some (.int .i64 x.f1) ∧ w'.cell? ⟨gb208, 2, none⟩ = some (.int .i64 x.f2) ∧ w'.cell? ⟨gb208, 3, none⟩ = some (.int .i64 x.f3) ∧ w'.cell? ⟨gb208, 4, none⟩ = some (.int .i64 x.f4) ∧ w'.cell? ⟨gb208, 5, none⟩ = some (.string x.f5)) (ds := []) #[false, false, false, false, false, false, false, false, false, false] (by kernel_rfl) rfl (by kernel_rfl) ⟨(bC_ BK208.out 0).trans rfl, (bC_ BK208.out 1).trans rfl, (bC_ BK208.out 2).trans rfl, (bC_ BK208.out 3).trans rfl, (bC_ BK208.out 4).trans rfl, (bC_ BK208.out 5).trans rfl⟩ (fun hHeld => ?_); refine with_tabW back6.tab16 back6.bits16 (fun HT_ HW_ => ?_)
      generalize wr.drew = w42 at HO_3 HO_4 BK195 BK208 HB hHeld ⊢
      refine seq_ (k := 6) [(0, some 77, false), (1, some 78, false), (4, some 81, false), (5, some 82, true)] #[true, true, false, false, true, true, false, false, false, false] rfl (seq_of HT_.out HW_.out (by kernel_rfl)) (fun _ _ _ _ _ h => h) hHeld ?_
      repeat (first | (refine SeqOn.pure (v := ?_) (a' := ?_) rfl rfl (Or.inl ⟨by kernel_rfl, ?_⟩) ?_ ?_; rotate_left 2; (focus (intro w'; go_simp; with_reducible rfl)); (focus (first | (simp only [Act.put, List.setIfInBounds_toArray, List.set_cons_zero, List.set_cons_succ, i64_w, i32_w]; rfl) | rfl))) | (refine SeqOn.take (v := ?_) (a' := ?_) rfl rfl (Or.inl ⟨by kernel_rfl, ?_⟩) ?_ ?_; rotate_left 2; (focus (rintro w' ⟨s0, s1, s2, s3, s4, s5⟩; go_simp; with_reducible rfl)); (focus (first | (simp only [Act.put, List.setIfInBounds_toArray, List.set_cons_zero, List.set_cons_succ, i64_w, i32_w]; rfl) | rfl))))
      refine SeqOn.nil ?_
      refine join_ (σ := Value × Value × Value) 3 #[true, true, true, true, true, true, true, false, false, false] (fun s_ => [(79, s_.1), (80, s_.2.1), (83, s_.2.2)]) (fun s_ w' => (w'.cell? ⟨gb208, 0, none⟩ = some (.int .i64 x.f0) ∧ w'.cell? ⟨gb208, 1, none⟩ = some (.int .i64 x.f1) ∧ w'.cell? ⟨gb208, 2, none⟩ = some (.int .i64 x.f2) ∧ w'.cell? ⟨gb208, 3, none⟩ = some (.int .i64 x.f3) ∧ w'.cell? ⟨gb208, 4, none⟩ = some (.int .i64 x.f4) ∧ w'.cell? ⟨gb208, 5, none⟩ = some (.string x.f5)) ∧ (Kd.R (Kd.int .u32) 33 w' w.heap.size (fun k_ => some k_ ≠ (s_.2.1 : Value).ownBlock) s_.1 y213) ∧ (Kd.R (Kd.int .u32) 33 w' w.heap.size (fun k_ => some k_ ≠ (s_.1 : Value).ownBlock) s_.2.1 y216) ∧ (Kd.R k35 35 w' w.heap.size (fun k_ => some k_ ≠ (.slice Ao41 xs.length co41 : Value).ownBlock ∧ k_ ≠ gb208) s_.2.2 y219) ∧ (Kd.R k35 35 w' w.heap.size (fun k_ => some k_ ≠ (s_.2.2 : Value).ownBlock ∧ k_ ≠ gb208) (.slice Ao41 xs.length co41) xs) ∧ (w'.heap[gb195]? = some (.cells #[.slice (some ad197) l0_0.length c0_0, .slice A0_1 n1 c0_1, .slice A0_2 n2 c0_2, .slice A0_3 n3 c0_3, .slice A0_4 n4 c0_4] 32 (0, 0))) ∧ (w'.heap[gb208]? = some (.cells #[.int .i64 x.f0, .int .i64 x.f1, .int .i64 x.f2, .int .i64 x.f3, .int .i64 x.f4, .string x.f5] 35 (0, 0))) ∧ (Below w.heap.size w w')) ?_ ?_
      rotate_left
      ·intro hCont
       refine two_ (i := 2) (j := 6) (Ni := some 79) (Nj := some 83) #[true, true, true, false, true, true, false, false, false, false] #[true, true, false, false, true, true, true, false, false, false] rfl rfl rfl rfl (two_of HT_.out (by kernel_rfl)) (by decide) (by decide) (fun K hK => ?_) (fun K hK => ?_)
       ·skip
        refine Kd.R_lit_step (Kd.int .u32) _ 33 ?hg (N := 79) ?hd (xs := ([t198] : List Int)) (inner := [.int .u32 t198]) (ok := fun _ => True) (okp := fun _ => True) ?hr ?hp (fun _ hk => hk) trivial (Below.refl _ _) (Nat.le_refl _) (by simp) ?_; (case hd => rfl); (case hg => rfl); (case hr => first | (go_simp; done) | (go_simp; rfl)); (case hp => exact (Reps.one (show Kd.M (Kd.int .u32) _ _ _ t198 [.int .u32 t198] from rfl) (Reps.none _ _)))
        intro v214 w43 ho44 hb hg_ hnew_
        clear hg_ hnew_
        (first | rw [← Ny213.out] at ho44 | (simp only [Int.reduceToNat] at ho44; rw [← Ny213.out] at ho44))
        have n0_ := As_.mk (Kd.R_elder' (by (with_reducible repeat (first | apply Kd.R_alloc | apply Kd.R_drewN | apply Kd.R_drew)); exact HO_3.out) (Kd.R_base ho44) hb)
        have n1_ := As_.mk (Kd.R_below (by (with_reducible repeat (first | apply Kd.R_alloc | apply Kd.R_drewN | apply Kd.R_drew)); exact HO_4.out) hb)
        have n2_ := As_.mk (Kd.R_lower (Kd.R_new' ho44 (Kd.R_lt (by (with_reducible repeat (first | apply Kd.R_alloc | apply Kd.R_drewN | apply Kd.R_drew)); exact HO_3.out))) (bY_ (by repeat (first | (with_reducible first | exact HB.out | apply bA_ | apply bN_ | apply b1_ | refine bS_ ?_ GE195.out | refine bS_ ?_ GE208.out) | exact HB.out))))
        have n3_ := As_.mk (kB_ (g := gb195) (o := .cells #[.slice (some ad197) l0_0.length c0_0, .slice A0_1 n1 c0_1, .slice A0_2 n2 c0_2, .slice A0_3 n3 c0_3, .slice A0_4 n4 c0_4] 32 (0, 0)) (by (with_reducible repeat (first | refine kN_ ?_ _ | refine kD_ ?_ | refine kA_ ?_ _)); exact BK195.out) hb)
        have n4_ := As_.mk (kB_ (g := gb208) (o := .cells #[.int .i64 x.f0, .int .i64 x.f1, .int .i64 x.f2, .int .i64 x.f3, .int .i64 x.f4, .string x.f5] 35 (0, 0)) (by (with_reducible repeat (first | refine kN_ ?_ _ | refine kD_ ?_ | refine kA_ ?_ _)); exact BK208.out) hb)
        have n5_ := As_.mk (bT_ (by repeat (first | (with_reducible first | exact HB.out | apply bA_ | apply bN_ | apply b1_ | refine bS_ ?_ GE195.out | refine bS_ ?_ GE208.out) | exact HB.out)) hb)
        clear HO_3
        clear HO_4
        clear BK195
        clear BK208
        clear HB
        have HO_3 := n0_
        have HO_4 := n1_
        have HO215 := n2_
        have BK195 := n3_
        have BK208 := n4_
        have HB := n5_
        clear n0_ n1_ n2_ n3_ n4_ n5_
        clear hb ho44
        obtain ⟨Ao46, co46, eo46⟩ := Kd.R_slice HO215.out
        (first | subst eo46 | (injection eo46 with f1_ f2_ f3_; have f4_ := f1_.symm; have f5_ := f3_.symm; clear f1_ f2_ f3_; subst f4_; subst f5_))
        refine hK.out _ _ ⟨(bC_ BK208.out 0).trans rfl, (bC_ BK208.out 1).trans rfl, (bC_ BK208.out 2).trans rfl, (bC_ BK208.out 3).trans rfl, (bC_ BK208.out 4).trans rfl, (bC_ BK208.out 5).trans rfl⟩ (fun hHeld => ?_)
        clear hK K
        refine norm_ (a' := ?_) ?_ ?_
        rotate_left
        ·show Act.put _ (some 79) _ = _
         simp only [Act.put, List.setIfInBounds_toArray, List.set_cons_zero, List.set_cons_succ, i64_w, i32_w]
         rfl
        refine two_ (i := 3) (j := 6) (Ni := some 80) (Nj := some 83) #[true, true, true, true, true, true, false, false, false, false] #[true, true, true, false, true, true, true, false, false, false] rfl rfl rfl rfl (two_of HT_.out (by kernel_rfl)) (by decide) (by decide) (fun K hK => ?_) (fun K hK => ?_)
        ·skip
         refine Kd.R_append_rows_step (Kd.int .u32) (w0 := w) w.heap.size (by rfl) (.tmp 77) (.tmp 79) 26 33 (.int .u32 0) 4 rfl Try.underlying26 info33 rfl (by decide) (by omega) (.slice Ao40 xs.length co40) x3_1 y213 _ _ _ (fun k_ => some k_ ≠ (.slice Ao46 y213.length co46 : Value).ownBlock) (fun _ => False) rfl rfl ?aO ?aR (fun _ _ h => h) (fun _ h => h.elim) ?aF ?aB ?aS ?aL ?_
         (case aR => repeat (first | exact (Kd.R_reads' HO215.out).2.2 | (with_reducible refine Kd.C_alloc ?_ _) | (with_reducible refine Kd.C_drewN ?_ _) | (with_reducible refine Kd.C_drew ?_)))
         (case aB => exact (by repeat (first | (with_reducible first | exact HB.out | apply bA_ | apply bN_ | apply b1_ | refine bS_ ?_ GE195.out | refine bS_ ?_ GE208.out) | exact HB.out)))
         (case aF => exact (fun k_ hk => Kd.fresh' (Kd.R_lt (by (with_reducible repeat (first | apply Kd.R_alloc | apply Kd.R_drewN | apply Kd.R_drew)); exact HO215.out)) k_ hk))
         (case aO => exact (by (with_reducible repeat (first | apply Kd.R_alloc | apply Kd.R_drewN | apply Kd.R_drew)); exact Kd.R_mono HO_3.out (fun _ hk => hk.2)))
         (case aS => exact (bY_ (by repeat (first | (with_reducible first | exact HB.out | apply bA_ | apply bN_ | apply b1_ | refine bS_ ?_ GE195.out | refine bS_ ?_ GE208.out) | exact HB.out))))
         (case aL => have := LMc38.out; have := HL213.out; omega)
         intro v217 w45 ho hb hg hat
         rw [← Ny216.out] at ho
         have n0_ := As_.mk (Kd.R_over' (by (with_reducible repeat (first | apply Kd.R_alloc | apply Kd.R_drewN | apply Kd.R_drew)); exact HO_4.out) (Kd.R_typed (by (with_reducible repeat (first | apply Kd.R_alloc | apply Kd.R_drewN | apply Kd.R_drew)); exact HO_3.out)) (by decide) hg)
         have n1_ := As_.mk (blk_grown (g := gb195) (o := .cells #[.slice (some ad197) l0_0.length c0_0, .slice A0_1 n1 c0_1, .slice A0_2 n2 c0_2, .slice A0_3 n3 c0_3, .slice A0_4 n4 c0_4] 32 (0, 0)) (by (with_reducible repeat (first | refine kN_ ?_ _ | refine kD_ ?_ | refine kA_ ?_ _)); exact BK195.out) hg (Kd.R_ne HO_3.out BK195.out (by decide)))
         have n2_ := As_.mk (blk_grown (g := gb208) (o := .cells #[.int .i64 x.f0, .int .i64 x.f1, .int .i64 x.f2, .int .i64 x.f3, .int .i64 x.f4, .string x.f5] 35 (0, 0)) (by (with_reducible repeat (first | refine kN_ ?_ _ | refine kD_ ?_ | refine kA_ ?_ _)); exact BK208.out) hg (Kd.R_ne HO_3.out BK208.out (by decide)))
         have n3_ := As_.mk (Kd.R_after (ok := (fun _ => True)) (by (with_reducible repeat (first | apply Kd.R_alloc | apply Kd.R_drewN | apply Kd.R_drew)); exact HO215.out) hg hat)
         have n4_ := As_.mk (hb)
         have n5_ := As_.mk (ho)
         clear HO_4
         clear BK195
         clear BK208
         clear HO215
         clear HB
         clear HO_3
         have HO_4 := n0_
         have BK195 := n1_
         have BK208 := n2_
         have HO215 := n3_
         have HB := n4_
         have HO218 := n5_
         clear n0_ n1_ n2_ n3_ n4_ n5_
         clear ho hb hg hat
         refine hK.out _ _ ⟨(bC_ BK208.out 0).trans rfl, (bC_ BK208.out 1).trans rfl, (bC_ BK208.out 2).trans rfl, (bC_ BK208.out 3).trans rfl, (bC_ BK208.out 4).trans rfl, (bC_ BK208.out 5).trans rfl⟩ (fun hHeld => ?_)
         clear hK K
         refine norm_ (a' := ?_) ?_ ?_
         rotate_left
         ·show Act.put _ (some 80) _ = _
          simp only [Act.put, List.setIfInBounds_toArray, List.set_cons_zero, List.set_cons_succ, i64_w, i32_w]
          rfl
         refine one_ (i := 6) (N := some 83) #[true, true, true, true, true, true, true, false, false, false] rfl rfl (one_of HT_.out (by kernel_rfl)) (by decide) (fun K hK => ?_)
         refine Kd.R_lit_step k35 _ 35 ?hg (N := 83) ?hd (xs := ([(⟨x.f0, x.f1, x.f2, x.f3, x.f4, x.f5⟩ : S35)] : List (S35))) (inner := [.int .i64 x.f0, .int .i64 x.f1, .int .i64 x.f2, .int .i64 x.f3, .int .i64 x.f4, .string x.f5]) (ok := fun _ => True) (okp := fun _ => True) ?hr ?hp (fun _ hk => hk) trivial (Below.refl _ _) (Nat.le_refl _) (by simp) ?_; (case hd => rfl); (case hg => rfl); (case hr => first | (go_simp; done) | (go_simp; rfl)); (case hp => exact (Reps.c6 (show Kd.M k35 _ _ _ (⟨x.f0, x.f1, x.f2, x.f3, x.f4, x.f5⟩ : S35) [.int .i64 x.f0, .int .i64 x.f1, .int .i64 x.f2, .int .i64 x.f3, .int .i64 x.f4, .string x.f5] from (k35_mkM _ _ _ (⟨x.f0, x.f1, x.f2, x.f3, x.f4, x.f5⟩ : S35) )) (Reps.none _ _)))
         intro v220 w47 ho48 hb hg_ hnew_
         clear hg_ hnew_
         (first | rw [← Ny219.out] at ho48 | (simp only [Int.reduceToNat] at ho48; rw [← Ny219.out] at ho48))
         have n0_ := As_.mk (Kd.R_elder' (by (with_reducible repeat (first | apply Kd.R_alloc | apply Kd.R_drewN | apply Kd.R_drew)); exact HO_4.out) (Kd.R_base ho48) hb)
         have n1_ := As_.mk (Kd.R_below (by (with_reducible repeat (first | apply Kd.R_alloc | apply Kd.R_drewN | apply Kd.R_drew)); exact HO215.out) hb)
         have n2_ := As_.mk (Kd.R_below (by (with_reducible repeat (first | apply Kd.R_alloc | apply Kd.R_drewN | apply Kd.R_drew)); exact HO218.out) hb)
         have n3_ := As_.mk (Kd.R_lower (Kd.R_newB (Kd.R_new' ho48 (Kd.R_lt (by (with_reducible repeat (first | apply Kd.R_alloc | apply Kd.R_drewN | apply Kd.R_drew)); exact HO_4.out))) (g := gb208) (o := .cells #[.int .i64 x.f0, .int .i64 x.f1, .int .i64 x.f2, .int .i64 x.f3, .int .i64 x.f4, .string x.f5] 35 (0, 0)) (by (with_reducible repeat (first | refine kN_ ?_ _ | refine kD_ ?_ | refine kA_ ?_ _)); exact BK208.out)) (bY_ (by repeat (first | (with_reducible first | exact HB.out | apply bA_ | apply bN_ | apply b1_ | refine bS_ ?_ GE195.out | refine bS_ ?_ GE208.out) | exact HB.out))))
         have n4_ := As_.mk (kB_ (g := gb195) (o := .cells #[.slice (some ad197) l0_0.length c0_0, .slice A0_1 n1 c0_1, .slice A0_2 n2 c0_2, .slice A0_3 n3 c0_3, .slice A0_4 n4 c0_4] 32 (0, 0)) (by (with_reducible repeat (first | refine kN_ ?_ _ | refine kD_ ?_ | refine kA_ ?_ _)); exact BK195.out) hb)
         have n5_ := As_.mk (kB_ (g := gb208) (o := .cells #[.int .i64 x.f0, .int .i64 x.f1, .int .i64 x.f2, .int .i64 x.f3, .int .i64 x.f4, .string x.f5] 35 (0, 0)) (by (with_reducible repeat (first | refine kN_ ?_ _ | refine kD_ ?_ | refine kA_ ?_ _)); exact BK208.out) hb)
         have n6_ := As_.mk (bT_ (by repeat (first | (with_reducible first | exact HB.out | apply bA_ | apply bN_ | apply b1_ | refine bS_ ?_ GE195.out | refine bS_ ?_ GE208.out) | exact HB.out)) hb)
         clear HO_4
         clear HO215
         clear HO218
         clear BK195
         clear BK208
         clear HB
         have HO_4 := n0_
         have HO215 := n1_
         have HO218 := n2_
         have HO221 := n3_
         have BK195 := n4_
         have BK208 := n5_
         have HB := n6_
         clear n0_ n1_ n2_ n3_ n4_ n5_ n6_
         clear hb ho48
         refine hK.out _ _ ⟨(bC_ BK208.out 0).trans rfl, (bC_ BK208.out 1).trans rfl, (bC_ BK208.out 2).trans rfl, (bC_ BK208.out 3).trans rfl, (bC_ BK208.out 4).trans rfl, (bC_ BK208.out 5).trans rfl⟩ (fun hHeld => ?_)
         clear hK K
         refine norm_ (a' := ?_) ?_ ?_
         rotate_left
         ·show Act.put _ (some 83) _ = _
          simp only [Act.put, List.setIfInBounds_toArray, List.set_cons_zero, List.set_cons_succ, i64_w, i32_w]
          rfl
         exact norm_ (by simp only [putAll, Act.put, List.setIfInBounds_toArray, List.set_cons_zero, List.set_cons_succ]) (hCont (.slice Ao46 y213.length co46, v217, v220) _ ⟨hHeld, (by (with_reducible repeat (first | apply Kd.R_alloc | apply Kd.R_drewN | apply Kd.R_drew)); exact Kd.R_mono HO215.out (fun _ hk => hk.2)), (by (with_reducible repeat (first | apply Kd.R_alloc | apply Kd.R_drewN | apply Kd.R_drew)); exact HO218.out), (by (with_reducible repeat (first | apply Kd.R_alloc | apply Kd.R_drewN | apply Kd.R_drew)); exact Kd.R_mono HO221.out (fun _ hk => ⟨hk.1.2, hk.2⟩)), (by (with_reducible repeat (first | apply Kd.R_alloc | apply Kd.R_drewN | apply Kd.R_drew)); exact Kd.R_mono HO_4.out (fun _ hk => ⟨hk.2, hk.1⟩)), (by (with_reducible repeat (first | refine kN_ ?_ _ | refine kD_ ?_ | refine kA_ ?_ _)); exact BK195.out), (by (with_reducible repeat (first | refine kN_ ?_ _ | refine kD_ ?_ | refine kA_ ?_ _)); exact BK208.out), (by repeat (first | (with_reducible first | exact HB.out | apply bA_ | apply bN_ | apply b1_ | refine bS_ ?_ GE195.out | refine bS_ ?_ GE208.out) | exact HB.out))⟩)
        skip
        refine Kd.R_lit_step k35 _ 35 ?hg (N := 83) ?hd (xs := ([(⟨x.f0, x.f1, x.f2, x.f3, x.f4, x.f5⟩ : S35)] : List (S35))) (inner := [.int .i64 x.f0, .int .i64 x.f1, .int .i64 x.f2, .int .i64 x.f3, .int .i64 x.f4, .string x.f5]) (ok := fun _ => True) (okp := fun _ => True) ?hr ?hp (fun _ hk => hk) trivial (Below.refl _ _) (Nat.le_refl _) (by simp) ?_; (case hd => rfl); (case hg => rfl); (case hr => first | (go_simp; done) | (go_simp; rfl)); (case hp => exact (Reps.c6 (show Kd.M k35 _ _ _ (⟨x.f0, x.f1, x.f2, x.f3, x.f4, x.f5⟩ : S35) [.int .i64 x.f0, .int .i64 x.f1, .int .i64 x.f2, .int .i64 x.f3, .int .i64 x.f4, .string x.f5] from (k35_mkM _ _ _ (⟨x.f0, x.f1, x.f2, x.f3, x.f4, x.f5⟩ : S35) )) (Reps.none _ _)))
        intro v220 w45 ho46 hb hg_ hnew_
        clear hg_ hnew_
        (first | rw [← Ny219.out] at ho46 | (simp only [Int.reduceToNat] at ho46; rw [← Ny219.out] at ho46))
        have n0_ := As_.mk (Kd.R_below (by (with_reducible repeat (first | apply Kd.R_alloc | apply Kd.R_drewN | apply Kd.R_drew)); exact HO_3.out) hb)
        have n1_ := As_.mk (Kd.R_elder' (by (with_reducible repeat (first | apply Kd.R_alloc | apply Kd.R_drewN | apply Kd.R_drew)); exact HO_4.out) (Kd.R_base ho46) hb)
        have n2_ := As_.mk (Kd.R_below (by (with_reducible repeat (first | apply Kd.R_alloc | apply Kd.R_drewN | apply Kd.R_drew)); exact HO215.out) hb)
        have n3_ := As_.mk (Kd.R_lower (Kd.R_newB (Kd.R_new' ho46 (Kd.R_lt (by (with_reducible repeat (first | apply Kd.R_alloc | apply Kd.R_drewN | apply Kd.R_drew)); exact HO_4.out))) (g := gb208) (o := .cells #[.int .i64 x.f0, .int .i64 x.f1, .int .i64 x.f2, .int .i64 x.f3, .int .i64 x.f4, .string x.f5] 35 (0, 0)) (by (with_reducible repeat (first | refine kN_ ?_ _ | refine kD_ ?_ | refine kA_ ?_ _)); exact BK208.out)) (bY_ (by repeat (first | (with_reducible first | exact HB.out | apply bA_ | apply bN_ | apply b1_ | refine bS_ ?_ GE195.out | refine bS_ ?_ GE208.out) | exact HB.out))))
        have n4_ := As_.mk (kB_ (g := gb195) (o := .cells #[.slice (some ad197) l0_0.length c0_0, .slice A0_1 n1 c0_1, .slice A0_2 n2 c0_2, .slice A0_3 n3 c0_3, .slice A0_4 n4 c0_4] 32 (0, 0)) (by (with_reducible repeat (first | refine kN_ ?_ _ | refine kD_ ?_ | refine kA_ ?_ _)); exact BK195.out) hb)
        have n5_ := As_.mk (kB_ (g := gb208) (o := .cells #[.int .i64 x.f0, .int .i64 x.f1, .int .i64 x.f2, .int .i64 x.f3, .int .i64 x.f4, .string x.f5] 35 (0, 0)) (by (with_reducible repeat (first | refine kN_ ?_ _ | refine kD_ ?_ | refine kA_ ?_ _)); exact BK208.out) hb)
        have n6_ := As_.mk (bT_ (by repeat (first | (with_reducible first | exact HB.out | apply bA_ | apply bN_ | apply b1_ | refine bS_ ?_ GE195.out | refine bS_ ?_ GE208.out) | exact HB.out)) hb)
        clear HO_3
        clear HO_4
        clear HO215
        clear BK195
        clear BK208
        clear HB
        have HO_3 := n0_
        have HO_4 := n1_
        have HO215 := n2_
        have HO221 := n3_
        have BK195 := n4_
        have BK208 := n5_
        have HB := n6_
        clear n0_ n1_ n2_ n3_ n4_ n5_ n6_
        clear hb ho46
        obtain ⟨Ao48, co48, eo48⟩ := Kd.R_slice HO215.out
        (first | subst eo48 | (injection eo48 with f1_ f2_ f3_; have f4_ := f1_.symm; have f5_ := f3_.symm; clear f1_ f2_ f3_; subst f4_; subst f5_))
        refine hK.out _ _ ⟨(bC_ BK208.out 0).trans rfl, (bC_ BK208.out 1).trans rfl, (bC_ BK208.out 2).trans rfl, (bC_ BK208.out 3).trans rfl, (bC_ BK208.out 4).trans rfl, (bC_ BK208.out 5).trans rfl⟩ (fun hHeld => ?_)
        clear hK K
        refine norm_ (a' := ?_) ?_ ?_
        rotate_left
        ·show Act.put _ (some 83) _ = _
         simp only [Act.put, List.setIfInBounds_toArray, List.set_cons_zero, List.set_cons_succ, i64_w, i32_w]
         rfl
        refine one_ (i := 3) (N := some 80) #[true, true, true, true, true, true, true, false, false, false] rfl rfl (one_of HT_.out (by kernel_rfl)) (by decide) (fun K hK => ?_)
        refine Kd.R_append_rows_step (Kd.int .u32) (w0 := w) w.heap.size (by rfl) (.tmp 77) (.tmp 79) 26 33 (.int .u32 0) 4 rfl Try.underlying26 info33 rfl (by decide) (by omega) (.slice Ao40 xs.length co40) x3_1 y213 _ _ _ (fun k_ => some k_ ≠ (.slice Ao48 y213.length co48 : Value).ownBlock) (fun _ => False) rfl rfl ?aO ?aR (fun _ _ h => h) (fun _ h => h.elim) ?aF ?aB ?aS ?aL ?_
        (case aR => repeat (first | exact (Kd.R_reads' HO215.out).2.2 | (with_reducible refine Kd.C_alloc ?_ _) | (with_reducible refine Kd.C_drewN ?_ _) | (with_reducible refine Kd.C_drew ?_)))
        (case aB => exact (by repeat (first | (with_reducible first | exact HB.out | apply bA_ | apply bN_ | apply b1_ | refine bS_ ?_ GE195.out | refine bS_ ?_ GE208.out) | exact HB.out)))
        (case aF => exact (fun k_ hk => Kd.fresh' (Kd.R_lt (by (with_reducible repeat (first | apply Kd.R_alloc | apply Kd.R_drewN | apply Kd.R_drew)); exact HO215.out)) k_ hk))
        (case aO => exact (by (with_reducible repeat (first | apply Kd.R_alloc | apply Kd.R_drewN | apply Kd.R_drew)); exact Kd.R_mono HO_3.out (fun _ hk => hk.2)))
        (case aS => exact (bY_ (by repeat (first | (with_reducible first | exact HB.out | apply bA_ | apply bN_ | apply b1_ | refine bS_ ?_ GE195.out | refine bS_ ?_ GE208.out) | exact HB.out))))
        (case aL => have := LMc38.out; have := HL213.out; omega)
        intro v217 w47 ho hb hg hat
        rw [← Ny216.out] at ho
        have n0_ := As_.mk (Kd.R_over' (by (with_reducible repeat (first | apply Kd.R_alloc | apply Kd.R_drewN | apply Kd.R_drew)); exact HO_4.out) (Kd.R_typed (by (with_reducible repeat (first | apply Kd.R_alloc | apply Kd.R_drewN | apply Kd.R_drew)); exact HO_3.out)) (by decide) hg)
        have n1_ := As_.mk (blk_grown (g := gb195) (o := .cells #[.slice (some ad197) l0_0.length c0_0, .slice A0_1 n1 c0_1, .slice A0_2 n2 c0_2, .slice A0_3 n3 c0_3, .slice A0_4 n4 c0_4] 32 (0, 0)) (by (with_reducible repeat (first | refine kN_ ?_ _ | refine kD_ ?_ | refine kA_ ?_ _)); exact BK195.out) hg (Kd.R_ne HO_3.out BK195.out (by decide)))
        have n2_ := As_.mk (blk_grown (g := gb208) (o := .cells #[.int .i64 x.f0, .int .i64 x.f1, .int .i64 x.f2, .int .i64 x.f3, .int .i64 x.f4, .string x.f5] 35 (0, 0)) (by (with_reducible repeat (first | refine kN_ ?_ _ | refine kD_ ?_ | refine kA_ ?_ _)); exact BK208.out) hg (Kd.R_ne HO_3.out BK208.out (by decide)))
        have n3_ := As_.mk (Kd.R_after (ok := (fun _ => True)) (by (with_reducible repeat (first | apply Kd.R_alloc | apply Kd.R_drewN | apply Kd.R_drew)); exact HO215.out) hg hat)
        have n4_ := As_.mk (Kd.R_over' (by (with_reducible repeat (first | apply Kd.R_alloc | apply Kd.R_drewN | apply Kd.R_drew)); exact HO221.out) (Kd.R_typed (by (with_reducible repeat (first | apply Kd.R_alloc | apply Kd.R_drewN | apply Kd.R_drew)); exact HO_3.out)) (by decide) hg)
        have n5_ := As_.mk (hb)
        have n6_ := As_.mk (ho)
        clear HO_4
        clear BK195
        clear BK208
        clear HO215
        clear HO221
        clear HB
        clear HO_3
        have HO_4 := n0_
        have BK195 := n1_
        have BK208 := n2_
        have HO215 := n3_
        have HO221 := n4_
        have HB := n5_
        have HO218 := n6_
        clear n0_ n1_ n2_ n3_ n4_ n5_ n6_
        clear ho hb hg hat
        refine hK.out _ _ ⟨(bC_ BK208.out 0).trans rfl, (bC_ BK208.out 1).trans rfl, (bC_ BK208.out 2).trans rfl, (bC_ BK208.out 3).trans rfl, (bC_ BK208.out 4).trans rfl, (bC_ BK208.out 5).trans rfl⟩ (fun hHeld => ?_)
        clear hK K
        refine norm_ (a' := ?_) ?_ ?_
        rotate_left
        ·show Act.put _ (some 80) _ = _
         simp only [Act.put, List.setIfInBounds_toArray, List.set_cons_zero, List.set_cons_succ, i64_w, i32_w]
         rfl
        exact norm_ (by simp only [putAll, Act.put, List.setIfInBounds_toArray, List.set_cons_zero, List.set_cons_succ]) (hCont (.slice Ao48 y213.length co48, v217, v220) _ ⟨hHeld, (by (with_reducible repeat (first | apply Kd.R_alloc | apply Kd.R_drewN | apply Kd.R_drew)); exact Kd.R_mono HO215.out (fun _ hk => hk.2)), (by (with_reducible repeat (first | apply Kd.R_alloc | apply Kd.R_drewN | apply Kd.R_drew)); exact HO218.out), (by (with_reducible repeat (first | apply Kd.R_alloc | apply Kd.R_drewN | apply Kd.R_drew)); exact Kd.R_mono HO221.out (fun _ hk => ⟨hk.1.2, hk.2⟩)), (by (with_reducible repeat (first | apply Kd.R_alloc | apply Kd.R_drewN | apply Kd.R_drew)); exact Kd.R_mono HO_4.out (fun _ hk => ⟨hk.2, hk.1⟩)), (by (with_reducible repeat (first | refine kN_ ?_ _ | refine kD_ ?_ | refine kA_ ?_ _)); exact BK195.out), (by (with_reducible repeat (first | refine kN_ ?_ _ | refine kD_ ?_ | refine kA_ ?_ _)); exact BK208.out), (by repeat (first | (with_reducible first | exact HB.out | apply bA_ | apply bN_ | apply b1_ | refine bS_ ?_ GE195.out | refine bS_ ?_ GE208.out) | exact HB.out))⟩)
       skip
       refine Kd.R_lit_step k35 _ 35 ?hg (N := 83) ?hd (xs := ([(⟨x.f0, x.f1, x.f2, x.f3, x.f4, x.f5⟩ : S35)] : List (S35))) (inner := [.int .i64 x.f0, .int .i64 x.f1, .int .i64 x.f2, .int .i64 x.f3, .int .i64 x.f4, .string x.f5]) (ok := fun _ => True) (okp := fun _ => True) ?hr ?hp (fun _ hk => hk) trivial (Below.refl _ _) (Nat.le_refl _) (by simp) ?_; (case hd => rfl); (case hg => rfl); (case hr => first | (go_simp; done) | (go_simp; rfl)); (case hp => exact (Reps.c6 (show Kd.M k35 _ _ _ (⟨x.f0, x.f1, x.f2, x.f3, x.f4, x.f5⟩ : S35) [.int .i64 x.f0, .int .i64 x.f1, .int .i64 x.f2, .int .i64 x.f3, .int .i64 x.f4, .string x.f5] from (k35_mkM _ _ _ (⟨x.f0, x.f1, x.f2, x.f3, x.f4, x.f5⟩ : S35) )) (Reps.none _ _)))
       intro v220 w43 ho44 hb hg_ hnew_
       clear hg_ hnew_
       (first | rw [← Ny219.out] at ho44 | (simp only [Int.reduceToNat] at ho44; rw [← Ny219.out] at ho44))
       have n0_ := As_.mk (Kd.R_below (by (with_reducible repeat (first | apply Kd.R_alloc | apply Kd.R_drewN | apply Kd.R_drew)); exact HO_3.out) hb)
       have n1_ := As_.mk (Kd.R_elder' (by (with_reducible repeat (first | apply Kd.R_alloc | apply Kd.R_drewN | apply Kd.R_drew)); exact HO_4.out) (Kd.R_base ho44) hb)
       have n2_ := As_.mk (Kd.R_lower (Kd.R_newB (Kd.R_new' ho44 (Kd.R_lt (by (with_reducible repeat (first | apply Kd.R_alloc | apply Kd.R_drewN | apply Kd.R_drew)); exact HO_4.out))) (g := gb208) (o := .cells #[.int .i64 x.f0, .int .i64 x.f1, .int .i64 x.f2, .int .i64 x.f3, .int .i64 x.f4, .string x.f5] 35 (0, 0)) (by (with_reducible repeat (first | refine kN_ ?_ _ | refine kD_ ?_ | refine kA_ ?_ _)); exact BK208.out)) (bY_ (by repeat (first | (with_reducible first | exact HB.out | apply bA_ | apply bN_ | apply b1_ | refine bS_ ?_ GE195.out | refine bS_ ?_ GE208.out) | exact HB.out))))
       have n3_ := As_.mk (kB_ (g := gb195) (o := .cells #[.slice (some ad197) l0_0.length c0_0, .slice A0_1 n1 c0_1, .slice A0_2 n2 c0_2, .slice A0_3 n3 c0_3, .slice A0_4 n4 c0_4] 32 (0, 0)) (by (with_reducible repeat (first | refine kN_ ?_ _ | refine kD_ ?_ | refine kA_ ?_ _)); exact BK195.out) hb)
       have n4_ := As_.mk (kB_ (g := gb208) (o := .cells #[.int .i64 x.f0, .int .i64 x.f1, .int .i64 x.f2, .int .i64 x.f3, .int .i64 x.f4, .string x.f5] 35 (0, 0)) (by (with_reducible repeat (first | refine kN_ ?_ _ | refine kD_ ?_ | refine kA_ ?_ _)); exact BK208.out) hb)
       have n5_ := As_.mk (bT_ (by repeat (first | (with_reducible first | exact HB.out | apply bA_ | apply bN_ | apply b1_ | refine bS_ ?_ GE195.out | refine bS_ ?_ GE208.out) | exact HB.out)) hb)
       clear HO_3
       clear HO_4
       clear BK195
       clear BK208
       clear HB
       have HO_3 := n0_
       have HO_4 := n1_
       have HO221 := n2_
       have BK195 := n3_
       have BK208 := n4_
       have HB := n5_
       clear n0_ n1_ n2_ n3_ n4_ n5_
       clear hb ho44
       refine hK.out _ _ ⟨(bC_ BK208.out 0).trans rfl, (bC_ BK208.out 1).trans rfl, (bC_ BK208.out 2).trans rfl, (bC_ BK208.out 3).trans rfl, (bC_ BK208.out 4).trans rfl, (bC_ BK208.out 5).trans rfl⟩ (fun hHeld => ?_)
       clear hK K
       refine norm_ (a' := ?_) ?_ ?_
       rotate_left
       ·show Act.put _ (some 83) _ = _
        simp only [Act.put, List.setIfInBounds_toArray, List.set_cons_zero, List.set_cons_succ, i64_w, i32_w]
        rfl
       refine one_ (i := 2) (N := some 79) #[true, true, true, false, true, true, true, false, false, false] rfl rfl (one_of HT_.out (by kernel_rfl)) (by decide) (fun K hK => ?_)
       refine Kd.R_lit_step (Kd.int .u32) _ 33 ?hg (N := 79) ?hd (xs := ([t198] : List Int)) (inner := [.int .u32 t198]) (ok := fun _ => True) (okp := fun _ => True) ?hr ?hp (fun _ hk => hk) trivial (Below.refl _ _) (Nat.le_refl _) (by simp) ?_; (case hd => rfl); (case hg => rfl); (case hr => first | (go_simp; done) | (go_simp; rfl)); (case hp => exact (Reps.one (show Kd.M (Kd.int .u32) _ _ _ t198 [.int .u32 t198] from rfl) (Reps.none _ _)))
       intro v214 w45 ho46 hb hg_ hnew_
       clear hg_ hnew_
       (first | rw [← Ny213.out] at ho46 | (simp only [Int.reduceToNat] at ho46; rw [← Ny213.out] at ho46))
       have n0_ := As_.mk (Kd.R_elder' (by (with_reducible repeat (first | apply Kd.R_alloc | apply Kd.R_drewN | apply Kd.R_drew)); exact HO_3.out) (Kd.R_base ho46) hb)
       have n1_ := As_.mk (Kd.R_below (by (with_reducible repeat (first | apply Kd.R_alloc | apply Kd.R_drewN | apply Kd.R_drew)); exact HO_4.out) hb)
       have n2_ := As_.mk (Kd.R_below (by (with_reducible repeat (first | apply Kd.R_alloc | apply Kd.R_drewN | apply Kd.R_drew)); exact HO221.out) hb)
       have n3_ := As_.mk (Kd.R_lower (Kd.R_new' ho46 (Kd.R_lt (by (with_reducible repeat (first | apply Kd.R_alloc | apply Kd.R_drewN | apply Kd.R_drew)); exact HO_3.out))) (bY_ (by repeat (first | (with_reducible first | exact HB.out | apply bA_ | apply bN_ | apply b1_ | refine bS_ ?_ GE195.out | refine bS_ ?_ GE208.out) | exact HB.out))))
       have n4_ := As_.mk (kB_ (g := gb195) (o := .cells #[.slice (some ad197) l0_0.length c0_0, .slice A0_1 n1 c0_1, .slice A0_2 n2 c0_2, .slice A0_3 n3 c0_3, .slice A0_4 n4 c0_4] 32 (0, 0)) (by (with_reducible repeat (first | refine kN_ ?_ _ | refine kD_ ?_ | refine kA_ ?_ _)); exact BK195.out) hb)
       have n5_ := As_.mk (kB_ (g := gb208) (o := .cells #[.int .i64 x.f0, .int .i64 x.f1, .int .i64 x.f2, .int .i64 x.f3, .int .i64 x.f4, .string x.f5] 35 (0, 0)) (by (with_reducible repeat (first | refine kN_ ?_ _ | refine kD_ ?_ | refine kA_ ?_ _)); exact BK208.out) hb)
       have n6_ := As_.mk (bT_ (by repeat (first | (with_reducible first | exact HB.out | apply bA_ | apply bN_ | apply b1_ | refine bS_ ?_ GE195.out | refine bS_ ?_ GE208.out) | exact HB.out)) hb)
       clear HO_3
       clear HO_4
       clear HO221
       clear BK195
       clear BK208
       clear HB
       have HO_3 := n0_
       have HO_4 := n1_
       have HO221 := n2_
       have HO215 := n3_
       have BK195 := n4_
       have BK208 := n5_
       have HB := n6_
       clear n0_ n1_ n2_ n3_ n4_ n5_ n6_
       clear hb ho46
       obtain ⟨Ao48, co48, eo48⟩ := Kd.R_slice HO215.out
       (first | subst eo48 | (injection eo48 with f1_ f2_ f3_; have f4_ := f1_.symm; have f5_ := f3_.symm; clear f1_ f2_ f3_; subst f4_; subst f5_))
       refine hK.out _ _ ⟨(bC_ BK208.out 0).trans rfl, (bC_ BK208.out 1).trans rfl, (bC_ BK208.out 2).trans rfl, (bC_ BK208.out 3).trans rfl, (bC_ BK208.out 4).trans rfl, (bC_ BK208.out 5).trans rfl⟩ (fun hHeld => ?_)
       clear hK K
       refine norm_ (a' := ?_) ?_ ?_
       rotate_left
       ·show Act.put _ (some 79) _ = _
        simp only [Act.put, List.setIfInBounds_toArray, List.set_cons_zero, List.set_cons_succ, i64_w, i32_w]
        rfl
       refine one_ (i := 3) (N := some 80) #[true, true, true, true, true, true, true, false, false, false] rfl rfl (one_of HT_.out (by kernel_rfl)) (by decide) (fun K hK => ?_)
       refine Kd.R_append_rows_step (Kd.int .u32) (w0 := w) w.heap.size (by rfl) (.tmp 77) (.tmp 79) 26 33 (.int .u32 0) 4 rfl Try.underlying26 info33 rfl (by decide) (by omega) (.slice Ao40 xs.length co40) x3_1 y213 _ _ _ (fun k_ => some k_ ≠ (.slice Ao48 y213.length co48 : Value).ownBlock) (fun _ => False) rfl rfl ?aO ?aR (fun _ _ h => h) (fun _ h => h.elim) ?aF ?aB ?aS ?aL ?_
       (case aR => repeat (first | exact (Kd.R_reads' HO215.out).2.2 | (with_reducible refine Kd.C_alloc ?_ _) | (with_reducible refine Kd.C_drewN ?_ _) | (with_reducible refine Kd.C_drew ?_)))
       (case aB => exact (by repeat (first | (with_reducible first | exact HB.out | apply bA_ | apply bN_ | apply b1_ | refine bS_ ?_ GE195.out | refine bS_ ?_ GE208.out) | exact HB.out)))
       (case aF => exact (fun k_ hk => Kd.fresh' (Kd.R_lt (by (with_reducible repeat (first | apply Kd.R_alloc | apply Kd.R_drewN | apply Kd.R_drew)); exact HO215.out)) k_ hk))
       (case aO => exact (by (with_reducible repeat (first | apply Kd.R_alloc | apply Kd.R_drewN | apply Kd.R_drew)); exact Kd.R_mono HO_3.out (fun _ hk => hk.2)))
       (case aS => exact (bY_ (by repeat (first | (with_reducible first | exact HB.out | apply bA_ | apply bN_ | apply b1_ | refine bS_ ?_ GE195.out | refine bS_ ?_ GE208.out) | exact HB.out))))
       (case aL => have := LMc38.out; have := HL213.out; omega)
       intro v217 w47 ho hb hg hat
       rw [← Ny216.out] at ho
       have n0_ := As_.mk (Kd.R_over' (by (with_reducible repeat (first | apply Kd.R_alloc | apply Kd.R_drewN | apply Kd.R_drew)); exact HO_4.out) (Kd.R_typed (by (with_reducible repeat (first | apply Kd.R_alloc | apply Kd.R_drewN | apply Kd.R_drew)); exact HO_3.out)) (by decide) hg)
       have n1_ := As_.mk (blk_grown (g := gb195) (o := .cells #[.slice (some ad197) l0_0.length c0_0, .slice A0_1 n1 c0_1, .slice A0_2 n2 c0_2, .slice A0_3 n3 c0_3, .slice A0_4 n4 c0_4] 32 (0, 0)) (by (with_reducible repeat (first | refine kN_ ?_ _ | refine kD_ ?_ | refine kA_ ?_ _)); exact BK195.out) hg (Kd.R_ne HO_3.out BK195.out (by decide)))
       have n2_ := As_.mk (blk_grown (g := gb208) (o := .cells #[.int .i64 x.f0, .int .i64 x.f1, .int .i64 x.f2, .int .i64 x.f3, .int .i64 x.f4, .string x.f5] 35 (0, 0)) (by (with_reducible repeat (first | refine kN_ ?_ _ | refine kD_ ?_ | refine kA_ ?_ _)); exact BK208.out) hg (Kd.R_ne HO_3.out BK208.out (by decide)))
       have n3_ := As_.mk (Kd.R_over' (by (with_reducible repeat (first | apply Kd.R_alloc | apply Kd.R_drewN | apply Kd.R_drew)); exact HO221.out) (Kd.R_typed (by (with_reducible repeat (first | apply Kd.R_alloc | apply Kd.R_drewN | apply Kd.R_drew)); exact HO_3.out)) (by decide) hg)
       have n4_ := As_.mk (Kd.R_after (ok := (fun _ => True)) (by (with_reducible repeat (first | apply Kd.R_alloc | apply Kd.R_drewN | apply Kd.R_drew)); exact HO215.out) hg hat)
       have n5_ := As_.mk (hb)
       have n6_ := As_.mk (ho)
       clear HO_4
       clear BK195
       clear BK208
       clear HO221
       clear HO215
       clear HB
       clear HO_3
       have HO_4 := n0_
       have BK195 := n1_
       have BK208 := n2_
       have HO221 := n3_
       have HO215 := n4_
       have HB := n5_
       have HO218 := n6_
       clear n0_ n1_ n2_ n3_ n4_ n5_ n6_
       clear ho hb hg hat
       refine hK.out _ _ ⟨(bC_ BK208.out 0).trans rfl, (bC_ BK208.out 1).trans rfl, (bC_ BK208.out 2).trans rfl, (bC_ BK208.out 3).trans rfl, (bC_ BK208.out 4).trans rfl, (bC_ BK208.out 5).trans rfl⟩ (fun hHeld => ?_)
       clear hK K
       refine norm_ (a' := ?_) ?_ ?_
       rotate_left
       ·show Act.put _ (some 80) _ = _
        simp only [Act.put, List.setIfInBounds_toArray, List.set_cons_zero, List.set_cons_succ, i64_w, i32_w]
        rfl
       exact norm_ (by simp only [putAll, Act.put, List.setIfInBounds_toArray, List.set_cons_zero, List.set_cons_succ]) (hCont (.slice Ao48 y213.length co48, v217, v220) _ ⟨hHeld, (by (with_reducible repeat (first | apply Kd.R_alloc | apply Kd.R_drewN | apply Kd.R_drew)); exact Kd.R_mono HO215.out (fun _ hk => hk.2)), (by (with_reducible repeat (first | apply Kd.R_alloc | apply Kd.R_drewN | apply Kd.R_drew)); exact HO218.out), (by (with_reducible repeat (first | apply Kd.R_alloc | apply Kd.R_drewN | apply Kd.R_drew)); exact Kd.R_mono HO221.out (fun _ hk => ⟨hk.1.2, hk.2⟩)), (by (with_reducible repeat (first | apply Kd.R_alloc | apply Kd.R_drewN | apply Kd.R_drew)); exact Kd.R_mono HO_4.out (fun _ hk => ⟨hk.2, hk.1⟩)), (by (with_reducible repeat (first | refine kN_ ?_ _ | refine kD_ ?_ | refine kA_ ?_ _)); exact BK195.out), (by (with_reducible repeat (first | refine kN_ ?_ _ | refine kD_ ?_ | refine kA_ ?_ _)); exact BK208.out), (by repeat (first | (with_reducible first | exact HB.out | apply bA_ | apply bN_ | apply b1_ | refine bS_ ?_ GE195.out | refine bS_ ?_ GE208.out) | exact HB.out))⟩)
      rintro ⟨v214, v217, v220⟩ w49 ⟨hS_, h0_, h1_, h2_, h3_, h4_, h5_, h6_⟩
      have n0_ : As_ (Kd.R (Kd.int .u32) 33 w49 w.heap.size (fun k_ => some k_ ≠ (v217 : Value).ownBlock) v214 y213) := ⟨h0_⟩
      have n1_ : As_ (Kd.R (Kd.int .u32) 33 w49 w.heap.size (fun k_ => some k_ ≠ (v214 : Value).ownBlock) v217 y216) := ⟨h1_⟩
      have n2_ : As_ (Kd.R k35 35 w49 w.heap.size (fun k_ => some k_ ≠ (.slice Ao41 xs.length co41 : Value).ownBlock ∧ k_ ≠ gb208) v220 y219) := ⟨h2_⟩
      have n3_ : As_ (Kd.R k35 35 w49 w.heap.size (fun k_ => some k_ ≠ (v220 : Value).ownBlock ∧ k_ ≠ gb208) (.slice Ao41 xs.length co41) xs) := ⟨h3_⟩
      have n4_ : As_ (w49.heap[gb195]? = some (.cells #[.slice (some ad197) l0_0.length c0_0, .slice A0_1 n1 c0_1, .slice A0_2 n2 c0_2, .slice A0_3 n3 c0_3, .slice A0_4 n4 c0_4] 32 (0, 0))) := ⟨h4_⟩
      have n5_ : As_ (w49.heap[gb208]? = some (.cells #[.int .i64 x.f0, .int .i64 x.f1, .int .i64 x.f2, .int .i64 x.f3, .int .i64 x.f4, .string x.f5] 35 (0, 0))) := ⟨h5_⟩
      have n6_ : As_ (Below w.heap.size w w49) := ⟨h6_⟩
      clear HO_3
      clear HO_4
      clear BK195
      clear BK208
      clear HB
      clear h0_ h1_ h2_ h3_ h4_ h5_ h6_
      have HO215 := n0_
      have HO218 := n1_
      have HO221 := n2_
      have HO_4 := n3_
      have BK195 := n4_
      have BK208 := n5_
      have HB := n6_
      clear n0_ n1_ n2_ n3_ n4_ n5_ n6_
      have hHeld : w49.cell? ⟨gb208, 0, none⟩ = some (.int .i64 x.f0) ∧ w49.cell? ⟨gb208, 1, none⟩ = some (.int .i64 x.f1) ∧ w49.cell? ⟨gb208, 2, none⟩ = some (.int .i64 x.f2) ∧ w49.cell? ⟨gb208, 3, none⟩ = some (.int .i64 x.f3) ∧ w49.cell? ⟨gb208, 4, none⟩ = some (.int .i64 x.f4) ∧ w49.cell? ⟨gb208, 5, none⟩ = some (.string x.f5) := hS_
      obtain ⟨Ao51, co51, eo51⟩ := Kd.R_slice HO221.out
      (first | subst eo51 | (injection eo51 with f1_ f2_ f3_; have f4_ := f1_.symm; have f5_ := f3_.symm; clear f1_ f2_ f3_; subst f4_; subst f5_))
      refine norm_ (a' := ?_) ?_ ?_
      rotate_left
      ·simp only [putAll, Act.put, List.setIfInBounds_toArray, List.set_cons_zero, List.set_cons_succ]
       rfl
      refine one_ (i := 7) (N := some 84) #[true, true, true, true, true, true, true, true, false, false] rfl rfl (one_of HT_.out (by kernel_rfl)) (by decide) (fun K hK => ?_)
      refine Kd.R_append_rows_step k35 (w0 := w) w.heap.size (by rfl) (.tmp 81) (.tmp 83) 22 35 (.agg #[(.int .i64 0), (.int .i64 0), (.int .i64 0), (.int .i64 0), (.int .i64 0), (.string ⟨#[]⟩)]) 56 rfl Try.underlying22 info35 rfl (by decide) (by omega) (.slice Ao41 xs.length co41) xs y219 _ _ _ (fun k_ => some k_ ≠ (.slice Ao51 y219.length co51 : Value).ownBlock ∧ k_ ≠ gb208) (fun _ => False) rfl rfl ?aO ?aR (fun _ _ h => h) (fun _ h => h.elim) ?aF ?aB ?aS ?aL ?_
      (case aR => repeat (first | exact (Kd.R_reads' HO221.out).2.2 | (with_reducible refine Kd.C_alloc ?_ _) | (with_reducible refine Kd.C_drewN ?_ _) | (with_reducible refine Kd.C_drew ?_)))
      (case aB => exact (by repeat (first | (with_reducible first | exact HB.out | apply bA_ | apply bN_ | apply b1_ | refine bS_ ?_ GE195.out | refine bS_ ?_ GE208.out) | exact HB.out)))
      (case aF => exact (fun k_ hk => ⟨Kd.fresh' (Kd.R_lt (by (with_reducible repeat (first | apply Kd.R_alloc | apply Kd.R_drewN | apply Kd.R_drew)); exact HO221.out)) k_ hk, Kd.freshB (g := gb208) (o := .cells #[.int .i64 x.f0, .int .i64 x.f1, .int .i64 x.f2, .int .i64 x.f3, .int .i64 x.f4, .string x.f5] 35 (0, 0)) (by (with_reducible repeat (first | refine kN_ ?_ _ | refine kD_ ?_ | refine kA_ ?_ _)); exact BK208.out) k_ hk⟩))
      (case aO => exact (by (with_reducible repeat (first | apply Kd.R_alloc | apply Kd.R_drewN | apply Kd.R_drew)); exact HO_4.out))
      (case aS => exact (bY_ (by repeat (first | (with_reducible first | exact HB.out | apply bA_ | apply bN_ | apply b1_ | refine bS_ ?_ GE195.out | refine bS_ ?_ GE208.out) | exact HB.out))))
      (case aL => have := LMc39.out; have := HL219.out; omega)
      intro v223 w50 ho hb hg hat
      rw [← Ny222.out] at ho
      have n0_ := As_.mk (blk_grown (g := gb195) (o := .cells #[.slice (some ad197) l0_0.length c0_0, .slice A0_1 n1 c0_1, .slice A0_2 n2 c0_2, .slice A0_3 n3 c0_3, .slice A0_4 n4 c0_4] 32 (0, 0)) (by (with_reducible repeat (first | refine kN_ ?_ _ | refine kD_ ?_ | refine kA_ ?_ _)); exact BK195.out) hg (Kd.R_ne HO_4.out BK195.out (by decide)))
      have n1_ := As_.mk (blk_grown (g := gb208) (o := .cells #[.int .i64 x.f0, .int .i64 x.f1, .int .i64 x.f2, .int .i64 x.f3, .int .i64 x.f4, .string x.f5] 35 (0, 0)) (by (with_reducible repeat (first | refine kN_ ?_ _ | refine kD_ ?_ | refine kA_ ?_ _)); exact BK208.out) hg (Kd.R_away HO_4.out (fun _ hk => hk.2)))
      have n2_ := As_.mk (Kd.R_over' (by (with_reducible repeat (first | apply Kd.R_alloc | apply Kd.R_drewN | apply Kd.R_drew)); exact HO215.out) (Kd.R_typed (by (with_reducible repeat (first | apply Kd.R_alloc | apply Kd.R_drewN | apply Kd.R_drew)); exact HO_4.out)) (by decide) hg)
      have n3_ := As_.mk (Kd.R_over' (by (with_reducible repeat (first | apply Kd.R_alloc | apply Kd.R_drewN | apply Kd.R_drew)); exact HO218.out) (Kd.R_typed (by (with_reducible repeat (first | apply Kd.R_alloc | apply Kd.R_drewN | apply Kd.R_drew)); exact HO_4.out)) (by decide) hg)
      have n4_ := As_.mk (Kd.R_after (ok := (fun k_ => k_ ≠ gb208)) (by (with_reducible repeat (first | apply Kd.R_alloc | apply Kd.R_drewN | apply Kd.R_drew)); exact Kd.R_mono HO221.out (fun _ hk => ⟨hk.2, hk.1⟩)) hg hat)
      have n5_ := As_.mk (hb)
      have n6_ := As_.mk (ho)
      clear BK195
      clear BK208
      clear HO215
      clear HO218
      clear HO221
      clear HB
      clear HO_4
      have BK195 := n0_
      have BK208 := n1_
      have HO215 := n2_
      have HO218 := n3_
      have HO221 := n4_
      have HB := n5_
      have HO224 := n6_
      clear n0_ n1_ n2_ n3_ n4_ n5_ n6_
      clear ho hb hg hat
      refine hK.out _ _ ⟨(bC_ BK208.out 0).trans rfl, (bC_ BK208.out 1).trans rfl, (bC_ BK208.out 2).trans rfl, (bC_ BK208.out 3).trans rfl, (bC_ BK208.out 4).trans rfl, (bC_ BK208.out 5).trans rfl⟩ (fun hHeld => ?_)
      clear hK K
      refine norm_ (a' := ?_) ?_ ?_
      rotate_left
      ·show Act.put _ (some 84) _ = _
       simp only [Act.put, List.setIfInBounds_toArray, List.set_cons_zero, List.set_cons_succ, i64_w, i32_w]
       rfl
      refine seq_ (k := 0) [(8, some 3, false), (9, some 4, false)] #[true, true, true, true, true, true, true, true, true, true] rfl (seq_of HT_.out HW_.out (by kernel_rfl)) (fun _ _ _ _ _ h => h) hHeld ?_
      repeat (first | (refine SeqOn.pure (v := ?_) (a' := ?_) rfl rfl (Or.inl ⟨by kernel_rfl, ?_⟩) ?_ ?_; rotate_left 2; (focus (intro w'; go_simp; with_reducible rfl)); (focus (first | (simp only [Act.put, List.setIfInBounds_toArray, List.set_cons_zero, List.set_cons_succ, i64_w, i32_w]; rfl) | rfl))))
      refine SeqOn.nil ?_
      refine done_ (done_of HT_.out (by kernel_rfl)) ?_
      clear HT_ HW_ hHeld
      go_wp2
      clear HO215 HO221
      go_loopw [11] (fun v11 wr => ∃ s : Nat, s ≤ 4 ∧ v11 = .int .i64 s ∧ As_ (Below w50.heap.size w50 wr)) (fun v11 _ => 4 - (intOf v11).toNat)
      case atStart => exact ⟨0, by omega, rfl, ⟨Below.refl _ _⟩⟩
      case round =>
       obtain ⟨s, hs4, rfl, HBs⟩ := hrel
       by_cases hs : s < 4
       ·have BK8 := As_.mk (kB_ BK208.out HBs.out)
        have p7 : ((0 : Int) ≤ (s : Int)) = True := eq_true (Int.natCast_nonneg _)
        have q7 : ((s : Int) < 4) = True := eq_true (by omega)
        have q8 : (s < 4) = True := eq_true hs
        have hw4 : wrap64 ((s : Int) + 1) = ((s + 1 : Nat) : Int) := by unfold wrap64; omega
        have HS := As_.mk hs
        have hSE := slot_err (w := t198) s hs
        have hSG := slot_get (w := t198) s hs
        rw [HT.out, good_okW HGX.out] at hSE hSG
        rw [(good_back HGX.out).2.2.1, ← HT.out] at hSG
        rw [← HT.out] at hSE
        have hBN := fun (A : Option Addr) (cap : Nat) (W : World) (hC : Kd.C (Kd.int .u32) W A 4 (slotL t198 s)) => bundle_calls A cap (slotL t198 s) W (slot_len _ _) hC (slot_uw HUW.out s hs)
        rw [hSE] at hBN
        generalize bunR (slotL t198 s) = bd at hBN hSG
        have hMY := fun W => r3_May.calls 20 x.f0 (s : Int) _ W (ref_may_eq (Nat.le_refl _) _ _ HOP.out.1 HOP.out.2 (Int.natCast_nonneg _) (by omega))
        clear hs hs4 hSE
        cases hM : mayOp x.f0 (s : Int) with
        | true =>
         rw [hM] at hBN hMY hSG
         have HMY := As_.mk hMY
         rw [if_pos rfl] at hBN
         have HBN := As_.mk hBN
         have HSG := As_.mk hSG
         clear hBN hMY hSG hM
         go_wp2_with (first | ((with_reducible refine gate_dst (N := 89) rfl ?_); refine Kd.R_make (Kd.int .u32) _ 33 rfl (N := 89) rfl 26 _ _ rfl 4 rfl rfl Try.underlying26 (.int .u32 0) 4 info33 rfl (by decide) (by omega) 0 (ok := fun _ => True) (okp := fun _ => True) rfl (fun _ hk => hk) trivial (by omega) (by omega) (Below.refl _ _) (Nat.le_refl _) ?_; intro v226 wa ho hb hg_ hnew; obtain ⟨go, cpl, hv, hgo⟩ := R_shape ho hnew; replace hv : v226 = .slice (some ⟨go, 0, none⟩) 4 cpl := hv; subst hv; replace ho : Kd.R (Kd.int .u32) 33 wa wr.heap.size (fun _ => True) (.slice (some ⟨go, 0, none⟩) 4 cpl) (List.replicate 4 0) := ho; obtain ⟨hc, hf⟩ := Kd.R_celln 0 ho (s : Int) (Int.natCast_nonneg _) (by have := HS.out; omega); rw [Int.toNat_natCast] at hc hf; have HMK := As_.mk ho; have HBa := As_.mk hb; have GO := As_.mk hgo; clear ho hb hg_ hnew hgo) | ((with_reducible refine gate_store (t := 33) (p := 93) rfl ?_); have h_ := Kd.R_putg HMK.out (s : Int) t198; rw [Int.toNat_natCast] at h_; have H7A := As_.mk h_.1; have H7B := As_.mk h_.2; clear h_; refine store_event (t := 33) (p := 93) (v := .tmp 92) (w1 := wa.setCell ⟨go, s, none⟩ (.int .u32 t198)) ?hg ?ho ?hn ?hr ?_; (case ho => rfl); (case hg => rfl); (case hn => rfl); (case hr => first | (go_simp; done) | (go_simp; rfl)); intro wb hw_; have HSL : As_ (Kd.R (Kd.int .u32) 33 wb wr.heap.size (fun _ => True) (.slice (some ⟨go, 0, none⟩) 4 cpl) (slotL t198 s)) := ⟨by rw [hw_]; exact H7A.out⟩; have HBb : As_ (Below wr.heap.size wr wb) := ⟨by rw [hw_]; exact pw_below_grown HBa.out (some go) HBa.out.size H7B.out (fun k_ e_ => by injection e_ with e_; subst e_; exact GO.out)⟩; clear hw_ H7A H7B hc hf HMK HBa; have HCS : As_ (Kd.C (Kd.int .u32) wb (some ⟨go, 0, none⟩) 4 (slotL t198 s)) := ⟨by have h_ := (Kd.R_reads' HSL.out).2.2; rw [slot_len] at h_; exact h_⟩) | (go_at_call 21; refine (HBN.out _ _ _ HCS.out).mono ?_; rintro e wc ⟨rfl, hb⟩; have HBc := As_.mk (HBb.out.trans (hb.mono HBb.out.size)); clear hb) | ((with_reducible refine gate_dst (N := 13) rfl ?_); refine box_event ?hg (N := 13) ?hd (cs := (bunC z52).toArray) (t := 52) ?hr ?_; (case hd => rfl); (case hg => rfl); (case hr => first | (go_simp; done) | (go_simp; rfl)); intro gb254 hg8 wd hbox hb; have HBd := As_.mk (HBc.out.trans (hb.mono HBc.out.size)); have BKd := As_.mk hbox; have GE254 := As_.mk (show wr.heap.size ≤ gb254 from by rw [hg8]; exact HBc.out.size); clear hbox hb hg8) | ((with_reducible refine gate_store (t := 52) (p := 13) rfl ?_); obtain ⟨h7a, h7b⟩ := box52 BKd.out bd; have H7A := As_.mk h7a; have H7B := As_.mk h7b; clear h7a h7b; refine store_event (t := 52) (p := 13) (v := .tmp 97) (w1 := wd.setCells gb254 0 (bunC bd)) ?hg ?ho ?hn ?hr ?_; (case ho => rfl); (case hg => rfl); (case hn => rfl); (case hr => exact exec_store rfl rfl rfl H7B.out); intro we hw_; have BK254 := As_.mk (at_ hw_ H7A.out); have HBe := As_.mk (bset_ hw_ HBd.out HBd.out.size GE254.out); clear hw_ H7A H7B))
         refine start_ (n := 20) (S := fun w' => w'.heap[gb208]? = some (.cells (insC x).toArray 35 (0, 0)) ∧ w'.heap[gb254]? = some (.cells (bunC bd).toArray 52 (0, 0)) ∧ w'.cell? ⟨gb208, 0, none⟩ = some (.int .i64 x.f0)) (ds := []) (bm 20 0) (by kernel_rfl) rfl (by kernel_rfl) ⟨kD_ (kB_ BK8.out HBe.out), kD_ BK254.out, (bC_ (kD_ (kB_ BK8.out HBe.out)) 0).trans rfl⟩ (fun hHeld => ?_); refine with_tabW back6.tab23 back6.bits23 (fun HT_ HW_ => ?_)
         have BKf := As_.mk (kD_ (kB_ BK8.out HBe.out))
         have BKg := As_.mk (kD_ BK254.out)
         have HBf := As_.mk (b1_ HBe.out)
         clear HBe BK254
         generalize we.drew = wf at BKf BKg HBf hHeld ⊢
         refine seq_ (k := 16) [(0, some 99, false), (3, some 102, false), (5, some 104, false), (4, some 103, true)] (bm 20 57) rfl (seq_of HT_.out HW_.out (by kernel_rfl)) (fun _ _ _ _ _ h => h) hHeld ?_
         iterate 3 (refine SeqOn.pure (v := ?_) (a' := ?_) rfl rfl (Or.inl ⟨by kernel_rfl, ?_⟩) ?_ ?_; rotate_left 2; (focus (intro w'; go_simp; with_reducible rfl)); (focus (first | (simp only [Act.put, List.setIfInBounds_toArray, List.set_cons_zero, List.set_cons_succ, i64_w, i32_w]; rfl) | rfl)))
         (refine SeqOn.take (v := ?_) (a' := ?_) rfl rfl (Or.inl ⟨by kernel_rfl, ?_⟩) ?_ ?_; rotate_left 2; (focus (rintro w' ⟨s0, s1, s2⟩; go_simp; with_reducible rfl)); (focus (first | (simp only [Act.put, List.setIfInBounds_toArray, List.set_cons_zero, List.set_cons_succ, i64_w, i32_w]; rfl) | rfl)))
         refine SeqOn.nil ?_
         refine one_ (i := 1) (N := some 100) (bm 20 59) rfl rfl (one_of HT_.out (by kernel_rfl)) (by decide) (fun K hK => ?_)
         refine goes_ Try.func11 (by kernel_rfl) rfl #[.int .i64 0] (by rfl) rfl rfl (by (try simp only [List.map_toArray, List.map_cons, List.map_nil]); first | done | rfl) ?_
         with_reducible refine (w4_num.calls 0 0 _ rfl).mono ?_
         rintro e w' ⟨rfl, ⟨nd, rfl⟩⟩
         refine ⟨_, rfl, ?_⟩
         refine hK.out _ _ ⟨kN_ BKf.out nd, kN_ BKg.out nd, (bC_ (kN_ BKf.out nd) 0).trans rfl⟩ (fun hHeld => ?_)
         clear hK K
         replace BKf := As_.mk (kN_ BKf.out nd)
         replace BKg := As_.mk (kN_ BKg.out nd)
         replace HBf := As_.mk (bN_ HBf.out nd)
         generalize World.drewN wf nd = wg at BKf BKg HBf hHeld ⊢
         refine norm_ (a' := ?_) ?_ ?_
         rotate_left
         ·show Act.put _ (some 100) _ = _
          simp only [Act.put, List.setIfInBounds_toArray, List.set_cons_zero, List.set_cons_succ, i64_w, i32_w]
          rfl
         refine seq_ (k := 14) [(2, some 101, false)] (bm 20 63) rfl (seq_of HT_.out HW_.out (by kernel_rfl)) (fun _ _ _ _ _ h => h) hHeld ?_
         (refine SeqOn.pure (v := ?_) (a' := ?_) rfl rfl (Or.inl ⟨by kernel_rfl, ?_⟩) ?_ ?_; rotate_left 2; (focus (intro w'; go_simp; with_reducible rfl)); (focus (first | (simp only [Act.put, List.setIfInBounds_toArray, List.set_cons_zero, List.set_cons_succ, i64_w, i32_w]; rfl) | rfl)))
         refine SeqOn.nil ?_
         refine one_ (i := 6) (N := some 105) (bm 20 127) rfl rfl (one_of HT_.out (by kernel_rfl)) (by decide) (fun K hK => ?_)
         refine goes_ Try.func22 (by kernel_rfl) rfl #[.int .i64 x.f0, .int .i64 (s : Int)] (by rfl) rfl rfl (by (try simp only [List.map_toArray, List.map_cons, List.map_nil]); first | done | rfl) ?_
         refine (HMY.out _).mono ?_
         rintro e wh ⟨rfl, hb⟩
         refine ⟨_, rfl, ?_⟩
         refine hK.out _ _ ⟨kB_ BKf.out hb, kB_ BKg.out hb, (bC_ (kB_ BKf.out hb) 0).trans rfl⟩ (fun hHeld => ?_)
         clear hK K
         replace BKf := As_.mk (kB_ BKf.out hb)
         replace BKg := As_.mk (kB_ BKg.out hb)
         replace HBf := As_.mk (HBf.out.trans (hb.mono HBf.out.size))
         clear hb
         refine norm_ (a' := ?_) ?_ ?_
         rotate_left
         ·show Act.put _ (some 105) _ = _
          simp only [Act.put, List.setIfInBounds_toArray, List.set_cons_zero, List.set_cons_succ, i64_w, i32_w]
          rfl
         refine seq_ (k := 10) [(7, some 106, false), (8, some 107, false), (9, some 108, false)] (bm 20 1023) rfl (seq_of HT_.out HW_.out (by kernel_rfl)) (fun _ _ _ _ _ h => h) hHeld ?_
         iterate 3 (refine SeqOn.pure (v := ?_) (a' := ?_) rfl rfl (Or.inl ⟨by kernel_rfl, ?_⟩) ?_ ?_; rotate_left 2; (focus (intro w'; go_simp; with_reducible rfl)); (focus (first | (simp only [Act.put, List.setIfInBounds_toArray, List.set_cons_zero, List.set_cons_succ, i64_w, i32_w]; rfl) | rfl)))
         refine SeqOn.nil ?_
         refine one_ (i := 10) (N := some 109) (bm 20 2047) rfl rfl (one_of HT_.out (by kernel_rfl)) (by decide) (fun K hK => ?_)
         refine goes_ Try.func11 (by kernel_rfl) rfl #[.int .i64 0] (by rfl) rfl rfl (by (try simp only [List.map_toArray, List.map_cons, List.map_nil]); first | done | rfl) ?_
         with_reducible refine (w4_num.calls 0 0 _ rfl).mono ?_
         rintro e w' ⟨rfl, ⟨nd, rfl⟩⟩
         refine ⟨_, rfl, ?_⟩
         refine hK.out _ _ ⟨kN_ BKf.out nd, kN_ BKg.out nd, (bC_ (kN_ BKf.out nd) 0).trans rfl⟩ (fun hHeld => ?_)
         clear hK K
         replace BKf := As_.mk (kN_ BKf.out nd)
         replace BKg := As_.mk (kN_ BKg.out nd)
         replace HBf := As_.mk (bN_ HBf.out nd)
         generalize World.drewN wh nd = wi at BKf BKg HBf hHeld ⊢
         refine norm_ (a' := ?_) ?_ ?_
         rotate_left
         ·show Act.put _ (some 109) _ = _
          simp only [Act.put, List.setIfInBounds_toArray, List.set_cons_zero, List.set_cons_succ, i64_w, i32_w]
          rfl
         refine seq_ (k := 7) [(11, some 110, false), (12, some 111, false)] (bm 20 8191) rfl (seq_of HT_.out HW_.out (by kernel_rfl)) (fun _ _ _ _ _ h => h) hHeld ?_
         iterate 2 (refine SeqOn.pure (v := ?_) (a' := ?_) rfl rfl (Or.inl ⟨by kernel_rfl, ?_⟩) ?_ ?_; rotate_left 2; (focus (intro w'; go_simp; with_reducible rfl)); (focus (first | (simp only [Act.put, List.setIfInBounds_toArray, List.set_cons_zero, List.set_cons_succ, i64_w, i32_w]; rfl) | rfl)))
         refine SeqOn.nil ?_
         refine seq_ (k := 0) [(13, some 112, false), (14, some 113, false), (15, some 114, true), (16, some 115, true), (17, some 116, false), (18, some 117, false), (19, some 118, false)] (bm 20 1048575) rfl (seq_of HT_.out HW_.out (by kernel_rfl)) (fun _ _ _ _ _ h => h) hHeld ?_
         iterate 2 (refine SeqOn.pure (v := ?_) (a' := ?_) rfl rfl (Or.inl ⟨by kernel_rfl, ?_⟩) ?_ ?_; rotate_left 2; (focus (intro w'; go_simp; with_reducible rfl)); (focus (first | (simp only [Act.put, List.setIfInBounds_toArray, List.set_cons_zero, List.set_cons_succ, i64_w, i32_w]; rfl) | rfl)))
         (refine SeqOn.take (v := .agg (insC x).toArray) (a' := ?_) rfl rfl (Or.inl ⟨by kernel_rfl, ?_⟩) ?_ ?_; rotate_left; (focus (rintro w' ⟨s0, s1, s2⟩; exact exec_load rfl rfl (by have h_ := load_slot s1 s HS.out; rw [HSG.out (by trivial)] at h_; exact h_))); (focus (first | (simp only [Act.put, List.setIfInBounds_toArray, List.set_cons_zero, List.set_cons_succ, i64_w, i32_w]; rfl) | rfl)))
         (refine SeqOn.take (v := .agg (insC x).toArray) (a' := ?_) rfl rfl (Or.inl ⟨by kernel_rfl, ?_⟩) ?_ ?_; rotate_left; (focus (rintro w' ⟨s0, s1, s2⟩; exact exec_load rfl rfl (load35 s0))); (focus (first | (simp only [Act.put, List.setIfInBounds_toArray, List.set_cons_zero, List.set_cons_succ, i64_w, i32_w]; rfl) | rfl)))
         (refine SeqOn.pure (v := .bool false) (a' := ?_) rfl rfl (Or.inl ⟨by kernel_rfl, ?_⟩) ?_ ?_; rotate_left; (focus (intro w'; exact exec_bin rfl rfl rfl (guard35 _ (Or.inr rfl) _ _ _ _ _) (by have h_ := run_neq35 x x w'; rw [eqI_refl] at h_; exact h_))); (focus (first | (simp only [Act.put, List.setIfInBounds_toArray, List.set_cons_zero, List.set_cons_succ, i64_w, i32_w]; rfl) | rfl)))
         iterate 2 (refine SeqOn.pure (v := ?_) (a' := ?_) rfl rfl (Or.inl ⟨by kernel_rfl, ?_⟩) ?_ ?_; rotate_left 2; (focus (intro w'; go_simp; with_reducible rfl)); (focus (first | (simp only [Act.put, List.setIfInBounds_toArray, List.set_cons_zero, List.set_cons_succ, i64_w, i32_w]; rfl) | rfl)))
         refine SeqOn.nil ?_
         refine done_ (done_of HT_.out (by kernel_rfl)) ?_
         clear HT_ HW_ hHeld
         go_wp2
         refine ⟨⟨s + 1, by have := HS.out; omega, by congr 1, ⟨HBs.out.trans (HBf.out.mono HBs.out.size)⟩⟩, ?_⟩
         rw [hw4]
         show 4 - (((s + 1 : Nat) : Int)).toNat < 4 - ((s : Nat) : Int).toNat
         rw [Int.toNat_natCast, Int.toNat_natCast]
         have := HS.out
         omega
        | false =>
         rw [hM] at hBN hMY hSG
         have HMY := As_.mk hMY
         rw [if_neg (by decide)] at hBN
         have HBN := As_.mk hBN
         have HSG := As_.mk hSG
         clear hBN hMY hSG hM
         go_wp2_with (first | ((with_reducible refine gate_dst (N := 89) rfl ?_); refine Kd.R_make (Kd.int .u32) _ 33 rfl (N := 89) rfl 26 _ _ rfl 4 rfl rfl Try.underlying26 (.int .u32 0) 4 info33 rfl (by decide) (by omega) 0 (ok := fun _ => True) (okp := fun _ => True) rfl (fun _ hk => hk) trivial (by omega) (by omega) (Below.refl _ _) (Nat.le_refl _) ?_; intro v226 wa ho hb hg_ hnew; obtain ⟨go, cpl, hv, hgo⟩ := R_shape ho hnew; replace hv : v226 = .slice (some ⟨go, 0, none⟩) 4 cpl := hv; subst hv; replace ho : Kd.R (Kd.int .u32) 33 wa wr.heap.size (fun _ => True) (.slice (some ⟨go, 0, none⟩) 4 cpl) (List.replicate 4 0) := ho; obtain ⟨hc, hf⟩ := Kd.R_celln 0 ho (s : Int) (Int.natCast_nonneg _) (by have := HS.out; omega); rw [Int.toNat_natCast] at hc hf; have HMK := As_.mk ho; have HBa := As_.mk hb; have GO := As_.mk hgo; clear ho hb hg_ hnew hgo) | ((with_reducible refine gate_store (t := 33) (p := 93) rfl ?_); have h_ := Kd.R_putg HMK.out (s : Int) t198; rw [Int.toNat_natCast] at h_; have H7A := As_.mk h_.1; have H7B := As_.mk h_.2; clear h_; refine store_event (t := 33) (p := 93) (v := .tmp 92) (w1 := wa.setCell ⟨go, s, none⟩ (.int .u32 t198)) ?hg ?ho ?hn ?hr ?_; (case ho => rfl); (case hg => rfl); (case hn => rfl); (case hr => first | (go_simp; done) | (go_simp; rfl)); intro wb hw_; have HSL : As_ (Kd.R (Kd.int .u32) 33 wb wr.heap.size (fun _ => True) (.slice (some ⟨go, 0, none⟩) 4 cpl) (slotL t198 s)) := ⟨by rw [hw_]; exact H7A.out⟩; have HBb : As_ (Below wr.heap.size wr wb) := ⟨by rw [hw_]; exact pw_below_grown HBa.out (some go) HBa.out.size H7B.out (fun k_ e_ => by injection e_ with e_; subst e_; exact GO.out)⟩; clear hw_ H7A H7B hc hf HMK HBa; have HCS : As_ (Kd.C (Kd.int .u32) wb (some ⟨go, 0, none⟩) 4 (slotL t198 s)) := ⟨by have h_ := (Kd.R_reads' HSL.out).2.2; rw [slot_len] at h_; exact h_⟩) | (go_at_call 21; refine (HBN.out _ _ _ HCS.out).mono ?_; rintro e wc ⟨rfl, hb⟩; have HBc := As_.mk (HBb.out.trans (hb.mono HBb.out.size)); clear hb) | ((with_reducible refine gate_dst (N := 13) rfl ?_); refine box_event ?hg (N := 13) ?hd (cs := (bunC z52).toArray) (t := 52) ?hr ?_; (case hd => rfl); (case hg => rfl); (case hr => first | (go_simp; done) | (go_simp; rfl)); intro gb254 hg8 wd hbox hb; have HBd := As_.mk (HBc.out.trans (hb.mono HBc.out.size)); have BKd := As_.mk hbox; have GE254 := As_.mk (show wr.heap.size ≤ gb254 from by rw [hg8]; exact HBc.out.size); clear hbox hb hg8) | ((with_reducible refine gate_store (t := 52) (p := 13) rfl ?_); obtain ⟨h7a, h7b⟩ := box52 BKd.out bd; have H7A := As_.mk h7a; have H7B := As_.mk h7b; clear h7a h7b; refine store_event (t := 52) (p := 13) (v := .tmp 97) (w1 := wd.setCells gb254 0 (bunC bd)) ?hg ?ho ?hn ?hr ?_; (case ho => rfl); (case hg => rfl); (case hn => rfl); (case hr => exact exec_store rfl rfl rfl H7B.out); intro we hw_; have BK254 := As_.mk (at_ hw_ H7A.out); have HBe := As_.mk (bset_ hw_ HBd.out HBd.out.size GE254.out); clear hw_ H7A H7B))
         refine start_ (n := 20) (S := fun w' => w'.heap[gb208]? = some (.cells (insC x).toArray 35 (0, 0)) ∧ w'.heap[gb254]? = some (.cells (bunC bd).toArray 52 (0, 0)) ∧ w'.cell? ⟨gb208, 0, none⟩ = some (.int .i64 x.f0)) (ds := []) (bm 20 0) (by kernel_rfl) rfl (by kernel_rfl) ⟨kD_ (kB_ BK8.out HBe.out), kD_ BK254.out, (bC_ (kD_ (kB_ BK8.out HBe.out)) 0).trans rfl⟩ (fun hHeld => ?_); refine with_tabW back6.tab23 back6.bits23 (fun HT_ HW_ => ?_)
         have BKf := As_.mk (kD_ (kB_ BK8.out HBe.out))
         have BKg := As_.mk (kD_ BK254.out)
         have HBf := As_.mk (b1_ HBe.out)
         clear HBe BK254
         generalize we.drew = wf at BKf BKg HBf hHeld ⊢
         refine seq_ (k := 16) [(0, some 99, false), (3, some 102, false), (5, some 104, false), (4, some 103, true)] (bm 20 57) rfl (seq_of HT_.out HW_.out (by kernel_rfl)) (fun _ _ _ _ _ h => h) hHeld ?_
         iterate 3 (refine SeqOn.pure (v := ?_) (a' := ?_) rfl rfl (Or.inl ⟨by kernel_rfl, ?_⟩) ?_ ?_; rotate_left 2; (focus (intro w'; go_simp; with_reducible rfl)); (focus (first | (simp only [Act.put, List.setIfInBounds_toArray, List.set_cons_zero, List.set_cons_succ, i64_w, i32_w]; rfl) | rfl)))
         (refine SeqOn.take (v := ?_) (a' := ?_) rfl rfl (Or.inl ⟨by kernel_rfl, ?_⟩) ?_ ?_; rotate_left 2; (focus (rintro w' ⟨s0, s1, s2⟩; go_simp; with_reducible rfl)); (focus (first | (simp only [Act.put, List.setIfInBounds_toArray, List.set_cons_zero, List.set_cons_succ, i64_w, i32_w]; rfl) | rfl)))
         refine SeqOn.nil ?_
         refine one_ (i := 1) (N := some 100) (bm 20 59) rfl rfl (one_of HT_.out (by kernel_rfl)) (by decide) (fun K hK => ?_)
         refine goes_ Try.func11 (by kernel_rfl) rfl #[.int .i64 8] (by rfl) rfl rfl (by (try simp only [List.map_toArray, List.map_cons, List.map_nil]); first | done | rfl) ?_
         with_reducible refine (w4_num.calls 8 8 _ rfl).mono ?_
         rintro e w' ⟨rfl, ⟨nd, rfl⟩⟩
         refine ⟨_, rfl, ?_⟩
         refine hK.out _ _ ⟨kN_ BKf.out nd, kN_ BKg.out nd, (bC_ (kN_ BKf.out nd) 0).trans rfl⟩ (fun hHeld => ?_)
         clear hK K
         replace BKf := As_.mk (kN_ BKf.out nd)
         replace BKg := As_.mk (kN_ BKg.out nd)
         replace HBf := As_.mk (bN_ HBf.out nd)
         generalize World.drewN wf nd = wg at BKf BKg HBf hHeld ⊢
         refine norm_ (a' := ?_) ?_ ?_
         rotate_left
         ·show Act.put _ (some 100) _ = _
          simp only [Act.put, List.setIfInBounds_toArray, List.set_cons_zero, List.set_cons_succ, i64_w, i32_w]
          rfl
         refine seq_ (k := 14) [(2, some 101, false)] (bm 20 63) rfl (seq_of HT_.out HW_.out (by kernel_rfl)) (fun _ _ _ _ _ h => h) hHeld ?_
         (refine SeqOn.pure (v := ?_) (a' := ?_) rfl rfl (Or.inl ⟨by kernel_rfl, ?_⟩) ?_ ?_; rotate_left 2; (focus (intro w'; go_simp; with_reducible rfl)); (focus (first | (simp only [Act.put, List.setIfInBounds_toArray, List.set_cons_zero, List.set_cons_succ, i64_w, i32_w]; rfl) | rfl)))
         refine SeqOn.nil ?_
         refine one_ (i := 6) (N := some 105) (bm 20 127) rfl rfl (one_of HT_.out (by kernel_rfl)) (by decide) (fun K hK => ?_)
         refine goes_ Try.func22 (by kernel_rfl) rfl #[.int .i64 x.f0, .int .i64 (s : Int)] (by rfl) rfl rfl (by (try simp only [List.map_toArray, List.map_cons, List.map_nil]); first | done | rfl) ?_
         refine (HMY.out _).mono ?_
         rintro e wh ⟨rfl, hb⟩
         refine ⟨_, rfl, ?_⟩
         refine hK.out _ _ ⟨kB_ BKf.out hb, kB_ BKg.out hb, (bC_ (kB_ BKf.out hb) 0).trans rfl⟩ (fun hHeld => ?_)
         clear hK K
         replace BKf := As_.mk (kB_ BKf.out hb)
         replace BKg := As_.mk (kB_ BKg.out hb)
         replace HBf := As_.mk (HBf.out.trans (hb.mono HBf.out.size))
         clear hb
         refine norm_ (a' := ?_) ?_ ?_
         rotate_left
         ·show Act.put _ (some 105) _ = _
          simp only [Act.put, List.setIfInBounds_toArray, List.set_cons_zero, List.set_cons_succ, i64_w, i32_w]
          rfl
         refine seq_ (k := 10) [(7, some 106, false), (8, some 107, false), (9, some 108, false)] (bm 20 1023) rfl (seq_of HT_.out HW_.out (by kernel_rfl)) (fun _ _ _ _ _ h => h) hHeld ?_
         iterate 3 (refine SeqOn.pure (v := ?_) (a' := ?_) rfl rfl (Or.inl ⟨by kernel_rfl, ?_⟩) ?_ ?_; rotate_left 2; (focus (intro w'; go_simp; with_reducible rfl)); (focus (first | (simp only [Act.put, List.setIfInBounds_toArray, List.set_cons_zero, List.set_cons_succ, i64_w, i32_w]; rfl) | rfl)))
         refine SeqOn.nil ?_
         refine one_ (i := 10) (N := some 109) (bm 20 2047) rfl rfl (one_of HT_.out (by kernel_rfl)) (by decide) (fun K hK => ?_)
         refine goes_ Try.func11 (by kernel_rfl) rfl #[.int .i64 8] (by rfl) rfl rfl (by (try simp only [List.map_toArray, List.map_cons, List.map_nil]); first | done | rfl) ?_
         with_reducible refine (w4_num.calls 8 8 _ rfl).mono ?_
         rintro e w' ⟨rfl, ⟨nd, rfl⟩⟩
         refine ⟨_, rfl, ?_⟩
         refine hK.out _ _ ⟨kN_ BKf.out nd, kN_ BKg.out nd, (bC_ (kN_ BKf.out nd) 0).trans rfl⟩ (fun hHeld => ?_)
         clear hK K
         replace BKf := As_.mk (kN_ BKf.out nd)
         replace BKg := As_.mk (kN_ BKg.out nd)
         replace HBf := As_.mk (bN_ HBf.out nd)
         generalize World.drewN wh nd = wi at BKf BKg HBf hHeld ⊢
         refine norm_ (a' := ?_) ?_ ?_
         rotate_left
         ·show Act.put _ (some 109) _ = _
          simp only [Act.put, List.setIfInBounds_toArray, List.set_cons_zero, List.set_cons_succ, i64_w, i32_w]
          rfl
         refine seq_ (k := 7) [(11, some 110, false), (12, some 111, false)] (bm 20 8191) rfl (seq_of HT_.out HW_.out (by kernel_rfl)) (fun _ _ _ _ _ h => h) hHeld ?_
         iterate 2 (refine SeqOn.pure (v := ?_) (a' := ?_) rfl rfl (Or.inl ⟨by kernel_rfl, ?_⟩) ?_ ?_; rotate_left 2; (focus (intro w'; go_simp; with_reducible rfl)); (focus (first | (simp only [Act.put, List.setIfInBounds_toArray, List.set_cons_zero, List.set_cons_succ, i64_w, i32_w]; rfl) | rfl)))
         refine SeqOn.nil ?_
         refine offs_ (k := 2) (a' := ?_) [13, 14, 15, 16, 17] [some 112, some 113, some 114, some 115, some 116] (bm 20 262143) rfl rfl (off_of HT_.out (by kernel_rfl)) (by kernel_rfl) (fun _ _ _ _ _ h => h) ?_ ?_
         rotate_left
         ·simp only [undefs, Act.put, List.setIfInBounds_toArray, List.set_cons_zero, List.set_cons_succ]
          rfl
         refine seq_ (k := 0) [(18, some 117, false), (19, some 118, false)] (bm 20 1048575) rfl (seq_of HT_.out HW_.out (by kernel_rfl)) (fun _ _ _ _ _ h => h) hHeld ?_
         iterate 2 (refine SeqOn.pure (v := ?_) (a' := ?_) rfl rfl (Or.inl ⟨by kernel_rfl, ?_⟩) ?_ ?_; rotate_left 2; (focus (intro w'; go_simp; with_reducible rfl)); (focus (first | (simp only [Act.put, List.setIfInBounds_toArray, List.set_cons_zero, List.set_cons_succ, i64_w, i32_w]; rfl) | rfl)))
         refine SeqOn.nil ?_
         refine done_ (done_of HT_.out (by kernel_rfl)) ?_
         clear HT_ HW_ hHeld
         go_wp2
         refine ⟨⟨s + 1, by have := HS.out; omega, by congr 1, ⟨HBs.out.trans (HBf.out.mono HBs.out.size)⟩⟩, ?_⟩
         rw [hw4]
         show 4 - (((s + 1 : Nat) : Int)).toNat < 4 - ((s : Nat) : Int).toNat
         rw [Int.toNat_natCast, Int.toNat_natCast]
         have := HS.out
         omega
       obtain rfl : s = 4 := by omega
       have q7 : (((4 : Nat) : Int) < 4) = False := eq_false (by omega)
       clear hs hs4
       go_wp2
       refine ⟨⟨j + 1, xs ++ [x], by have := H20.out; omega, by have := HXL.out; simp; omega, by congr 1, ⟨fun y hy => by rcases List.mem_append.1 hy with h | h; exact HG.out y h; obtain rfl := List.mem_singleton.1 h; exact HGX.out⟩, ⟨?_⟩, ⟨?_⟩, ⟨kB_ BK195.out HBs.out⟩, ⟨HB.out.trans (HBs.out.mono HB.out.size)⟩⟩, ?_⟩
       ·rw [List.map_append, show [x].map wordX = [wordX x] from rfl, ← HT.out, ← HX31.out, ← Ny213.out, ← Ny216.out]
        exact Kd.R_below (Kd.R_mono HO218.out (fun _ _ => trivial)) HBs.out
       ·have h_ : y222 = xs ++ [x] := by rw [Ny222.out, Ny219.out]
        rw [← h_]
        exact Kd.R_below (Kd.R_mono HO224.out (fun _ _ => trivial)) HBs.out
       rw [hw2]
       show 20 - (((j + 1 : Nat) : Int)).toNat < 20 - ((j : Nat) : Int).toNat
       rw [Int.toNat_natCast, Int.toNat_natCast]
       have := H20.out
       omega
   have q3 : ((j : Int) < 20) = False := eq_false (by omega)
   have q4 : (j < 20) = False := eq_false h20
   go_wp2_with (go_at_call 14; refine (HWK.out _).mono ?_; rintro e w3 ⟨rfl, hb⟩; have HB3 := As_.mk hb; clear hb)
   go_ret
   exact ⟨rfl, HB.out.trans (HB3.out.mono HB.out.size)⟩
  have q1 : ((j : Int) < (l0_0.length : Int)) = False := eq_false (by omega)
  have q2 : (j < l0_0.length) = False := eq_false hlt
  go_wp2_with (go_at_call 14; refine (HWK.out _).mono ?_; rintro e w3 ⟨rfl, hb⟩; have HB3 := As_.mk hb; clear hb)
  go_ret
  exact ⟨rfl, HB.out.trans (HB3.out.mono HB.out.size)⟩
end Go.Proofs.Ytfnchdlgkkdegaa.PAll
