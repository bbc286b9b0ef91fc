import Derived.Test.YtibfkkjkahpobaaJu15
import Derived.Test.YtibfkkjkahpobaaJu16
import Derived.Test.YtibfkkjkahpobaaJu17
section
-- the texts that this claim needs, out of this session's and its print's (wip/shrink.py)
namespace Go.Proofs.Ytibfkkjkahpobaa.PDag
open Go.RowKit Go.Proofs.YtibfkkjkahpobaaW.PrintWords Go.Proofs.YtibfkkjkahpobaaW.PrintLast Go.Proofs.YtibfkkjkahpobaaW.PrintMore
attribute [local go_sem] max2_int min2_int max_two min_two max_three min_three max_four min_four   -- for this text's walks alone
set_option linter.unusedVariables false
set_option linter.unusedSimpArgs false
def isa_Read.j0 : Nat → List Int → Int → Int → Int → Int → Int → Int → ByteArray → Option (List Int)
  | 0, _, _, _, _, _, _, _, _ => none
  | k + 1, x2, x3, x150a, x150b, x150c, x150d, x150e, x150f => (isa_HasB.f x3).bind fun t155 => (if t155 = true then (if x2.length < 17592186044416 then (some (x2 ++ [x150d])) else (none)) else (some x2))
def isa_Read.f (k : Nat) (a0_0 : Int) (a0_1 : Int) (a0_2 : Int) (a0_3 : Int) (a0_4 : Int) (a0_5 : ByteArray) : Option (List Int) := (isa_Shape.f k a0_0).bind fun t150 => ((isa_HasA.f k t150).bind fun t151 => (if t151 = true then (if ([] : List Int).length < 17592186044416 then (isa_Read.j0 k (([] : List Int) ++ [a0_2]) t150 a0_0 a0_1 a0_2 a0_3 a0_4 a0_5) else (none)) else (isa_Read.j0 k ([] : List Int) t150 a0_0 a0_1 a0_2 a0_3 a0_4 a0_5)))
set_option maxHeartbeats 8000000 in
set_option maxRecDepth 100000 in
theorem isa_Read.calls (k : Nat) (a0_0 : Int) (a0_1 : Int) (a0_2 : Int) (a0_3 : Int) (a0_4 : Int) (a0_5 : ByteArray) (r : List Int) (w : World) (h : isa_Read.f k a0_0 a0_1 a0_2 a0_3 a0_4 a0_5 = some r) :
    Calls Try.prog 120 #[.agg #[.int .i64 a0_0, .int .i64 a0_1, .int .i64 a0_2, .int .i64 a0_3, .int .i64 a0_4, .string a0_5]] w fun e w' => ∃ v0_ : Value, e = .returned (v0_) ∧ Kd.R (Kd.int .i64) 3 w' w.heap.size (fun _ => True) v0_ r ∧ Below w.heap.size w w' := by
 have hu24 := Try.underlying24
 have HB := As_.mk (Below.refl w.heap.size w)
 have H : ((isa_Shape.f k a0_0).bind fun t150 => ((isa_HasA.f k t150).bind fun t151 => (if t151 = true then (if ([] : List Int).length < 17592186044416 then (isa_Read.j0 k (([] : List Int) ++ [a0_2]) t150 a0_0 a0_1 a0_2 a0_3 a0_4 a0_5) else (none)) else (isa_Read.j0 k ([] : List Int) t150 a0_0 a0_1 a0_2 a0_3 a0_4 a0_5)))) = some r := h
 clear h
 replace H := Option.bind_eq_some_iff.mp H
 obtain ⟨t150, A20, H⟩ := H
 replace H : ((isa_HasA.f k t150).bind fun t151 => (if t151 = true then (if ([] : List Int).length < 17592186044416 then (isa_Read.j0 k (([] : List Int) ++ [a0_2]) t150 a0_0 a0_1 a0_2 a0_3 a0_4 a0_5) else (none)) else (isa_Read.j0 k ([] : List Int) t150 a0_0 a0_1 a0_2 a0_3 a0_4 a0_5))) = some r := H
 have A2 := As_.mk A20
 clear A20
 replace H := Option.bind_eq_some_iff.mp H
 obtain ⟨t151, A30, H⟩ := H
 replace H : (if t151 = true then (if ([] : List Int).length < 17592186044416 then (isa_Read.j0 k (([] : List Int) ++ [a0_2]) t150 a0_0 a0_1 a0_2 a0_3 a0_4 a0_5) else (none)) else (isa_Read.j0 k ([] : List Int) t150 a0_0 a0_1 a0_2 a0_3 a0_4 a0_5)) = some r := H
 have A3 := As_.mk A30
 clear A30
 have HC4 := As_.mk H
 clear H
 go_enter Try.func120, Try.ntmps120
 go_upto_if 8 with (first | ((with_reducible refine gate_dst (N := 1) rfl ?_); refine box_event ?hg (N := 1) ?hd (cs := #[.int .i64 a0_0, .int .i64 a0_1, .int .i64 a0_2, .int .i64 a0_3, .int .i64 a0_4, .string a0_5]) (t := 24) ?hr ?_; (case hd => rfl); (case hg => rfl); (case hr => first | (go_simp; done) | (go_simp; rfl)); intro gb149 hg w5 hbox hb; have n0_ := As_.mk (bT_ (by repeat (first | (with_reducible first | exact HB.out | apply bA_ | apply bN_ | apply b1_) | exact HB.out)) hb); have n1_ := As_.mk (hbox); have n2_ := As_.mk ((by rw [hg]; exact (bY_ (by repeat (first | (with_reducible first | exact HB.out | apply bA_ | apply bN_ | apply b1_) | exact HB.out))) : w.heap.size ≤ gb149)); have n3_ := As_.mk ((by rw [hg]; exact (bY_ (by repeat (first | (with_reducible first | exact HB.out | apply bA_ | apply bN_ | apply b1_) | exact HB.out))) : w.heap.size ≤ gb149)); clear HB; have HB := n0_; have BK149 := n1_; have GW149 := n2_; have GE149 := n3_; clear n0_ n1_ n2_ n3_; clear hb hbox hg; have hcz6_0 : w5.cell? ⟨gb149, 0, none⟩ = some (.int .i64 a0_0) := (bC_ BK149.out 0).trans rfl; have hcz6_1 : w5.cell? ⟨gb149, 1, none⟩ = some (.int .i64 a0_1) := (bC_ BK149.out 1).trans rfl; have hcz6_2 : w5.cell? ⟨gb149, 2, none⟩ = some (.int .i64 a0_2) := (bC_ BK149.out 2).trans rfl; have hcz6_3 : w5.cell? ⟨gb149, 3, none⟩ = some (.int .i64 a0_3) := (bC_ BK149.out 3).trans rfl; have hcz6_4 : w5.cell? ⟨gb149, 4, none⟩ = some (.int .i64 a0_4) := (bC_ BK149.out 4).trans rfl; have hcz6_5 : w5.cell? ⟨gb149, 5, none⟩ = some (.string a0_5) := (bC_ BK149.out 5).trans rfl; have hfz6_0 := bZ_ BK149.out 0; have hfz6_1 := bZ_ BK149.out 1; have hfz6_2 := bZ_ BK149.out 2; have hfz6_3 := bZ_ BK149.out 3; have hfz6_4 := bZ_ BK149.out 4; have hfz6_5 := bZ_ BK149.out 5) | ((with_reducible refine gC_ (f := 97) rfl ?_); refine goesL_ (some 6) rfl rfl Try.func97 (by kernel_rfl) rfl #[.int .i64 a0_0] rfl (by (try simp only [List.map_toArray, List.map_cons, List.map_nil]); first | done | rfl) ?_; (with_reducible refine (isa_Shape.calls k a0_0 t150 _ A2.out).mono ?_); rintro e w' ⟨rfl, ⟨nd, rfl⟩⟩; refine ⟨_, rfl, ?_⟩) | ((with_reducible refine gC_ (f := 100) rfl ?_); refine goesL_ (some 8) rfl rfl Try.func100 (by kernel_rfl) rfl #[.int .i64 t150] rfl (by (try simp only [List.map_toArray, List.map_cons, List.map_nil]); first | done | rfl) ?_; (with_reducible refine (isa_HasA.calls k t150 t151 _ A3.out).mono ?_); rintro e w' ⟨rfl, ⟨nd, rfl⟩⟩; refine ⟨_, rfl, ?_⟩))
 (try simp only [Act.put, List.setIfInBounds_toArray, List.set_cons_zero, List.set_cons_succ])
 go_cut [2] (fun v2 wc => ∃ (kq : Nat) (x2_3 : List Int), As_ (isa_Read.j0 kq x2_3 t150 a0_0 a0_1 a0_2 a0_3 a0_4 a0_5 = some r) ∧ As_ (kq ≤ k) ∧ As_ (Kd.R (Kd.int .i64) 3 wc w.heap.size (fun _ => True) v2 x2_3) ∧ As_ (wc.heap[gb149]? = some (.cells #[.int .i64 a0_0, .int .i64 a0_1, .int .i64 a0_2, .int .i64 a0_3, .int .i64 a0_4, .string a0_5] 24 (0, 0))) ∧ As_ (Below w.heap.size w wc))
 case first =>
  have H := HC4.out
  clear HC4
  by_cases c7 : t151 = true
  ·subst c7
   have H1 : (if ([] : List Int).length < 17592186044416 then (isa_Read.j0 k (([] : List Int) ++ [a0_2]) t150 a0_0 a0_1 a0_2 a0_3 a0_4 a0_5) else (none)) = some r := by rw [if_pos rfl] at H; exact H
   clear H
   have H := H1
   clear H1
   by_cases c8 : ([] : List Int).length < 17592186044416
   ·rw [if_pos c8] at H
    have LMc8 := As_.mk c8
    clear c8
    obtain ⟨y152, hy152⟩ : ∃ y_ : List Int, y_ = (([] : List Int) ++ [a0_2]) := ⟨_, rfl⟩
    replace H : (isa_Read.j0 k y152 t150 a0_0 a0_1 a0_2 a0_3 a0_4 a0_5) = some r := by first | (rw [hy152]; with_reducible exact H) | (have H2_ := (Option.bind_some _ _).symm.trans H; rw [hy152]; with_reducible exact H2_) | (have H2_ := (Option.bind_some _ _).symm.trans H; with_reducible exact H2_) | with_reducible exact H | (rw [hy152]; exact H) | exact H
    have Ny152 := As_.mk hy152
    clear hy152
    have H' := As_.mk H
    clear H
    have hcz9_0 : w5.cell? ⟨gb149, 0, none⟩ = some (.int .i64 a0_0) := (bC_ BK149.out 0).trans rfl
    have hcz9_1 : w5.cell? ⟨gb149, 1, none⟩ = some (.int .i64 a0_1) := (bC_ BK149.out 1).trans rfl
    have hcz9_2 : w5.cell? ⟨gb149, 2, none⟩ = some (.int .i64 a0_2) := (bC_ BK149.out 2).trans rfl
    have hcz9_3 : w5.cell? ⟨gb149, 3, none⟩ = some (.int .i64 a0_3) := (bC_ BK149.out 3).trans rfl
    have hcz9_4 : w5.cell? ⟨gb149, 4, none⟩ = some (.int .i64 a0_4) := (bC_ BK149.out 4).trans rfl
    have hcz9_5 : w5.cell? ⟨gb149, 5, none⟩ = some (.string a0_5) := (bC_ BK149.out 5).trans rfl
    have hfz9_0 := bZ_ BK149.out 0
    have hfz9_1 := bZ_ BK149.out 1
    have hfz9_2 := bZ_ BK149.out 2
    have hfz9_3 := bZ_ BK149.out 3
    have hfz9_4 := bZ_ BK149.out 4
    have hfz9_5 := bZ_ BK149.out 5
    go_wp2_with (first | ((with_reducible refine gate_builtin (b := .append) (xs := #[.tmp 9, .tmp 12]) rfl ?_); at_builtin; refine Kd.R_append (Kd.int .i64) (w0 := w) w.heap.size rfl (.tmp 9) (.tmp 12) 25 3 (.int .i64 0) 8 rfl Try.underlying25 info3 rfl (by decide) (by omega) (.slice none 0 0) ([] : List Int) a0_2 [.int .i64 a0_2] (fun _ => True) (fun _ => False) rfl rfl ?aP (fun _ hk => hk.elim) ?aF ?aO ?aB ?aS ?aL ?_; (case aP => exact rfl); (case aB => exact (by repeat (first | (with_reducible first | exact HB.out | apply bA_ | apply bN_ | apply b1_ | refine bS_ ?_ GE149.out) | exact HB.out))); (case aF => exact (fun _ _ => trivial)); (case aO => exact ((Kd.R_nil _ _ _ _ (fun _ => True)))); (case aS => exact (bY_ (by repeat (first | (with_reducible first | exact HB.out | apply bA_ | apply bN_ | apply b1_ | refine bS_ ?_ GE149.out) | exact HB.out)))); (case aL => have := LMc8.out; omega); intro v153 w10 ho hb hg hat; rw [← Ny152.out] at ho; have n0_ := As_.mk (blk_grown (g := gb149) (o := .cells #[.int .i64 a0_0, .int .i64 a0_1, .int .i64 a0_2, .int .i64 a0_3, .int .i64 a0_4, .string a0_5] 24 (0, 0)) (by (with_reducible repeat (first | refine kN_ ?_ _ | refine kD_ ?_ | refine kA_ ?_ _)); exact BK149.out) hg (by simp [Value.ownBlock])); have n1_ := As_.mk (hb); have n2_ := As_.mk (ho); clear BK149; clear HB; have BK149 := n0_; have HB := n1_; have HO154 := n2_; clear n0_ n1_ n2_; clear ho hb hg hat))
    go_meet
    case rel => exact ⟨_, (y152), H', ⟨by first | omega | exact Nat.le_refl _⟩, ⟨by (with_reducible repeat (first | apply Kd.R_alloc | apply Kd.R_drewN | apply Kd.R_drew)); exact HO154.out⟩, ⟨by (with_reducible repeat (first | refine kN_ ?_ _ | refine kD_ ?_ | refine kA_ ?_ _)); exact BK149.out⟩, ⟨by repeat (first | (with_reducible first | exact HB.out | apply bA_ | apply bN_ | apply b1_ | refine bS_ ?_ GE149.out) | exact HB.out)⟩⟩
   rw [if_neg c8] at H
   exact absurd H (by simp)
  replace c7 := Bool.eq_false_iff.mpr c7
  subst c7
  have H1 : (isa_Read.j0 k ([] : List Int) t150 a0_0 a0_1 a0_2 a0_3 a0_4 a0_5) = some r := by rw [if_neg (show ¬ (false = true) by decide)] at H; exact H
  clear H
  have H := H1
  clear H1
  have H' := As_.mk H
  clear H
  go_wp2
  go_meet
  case rel => exact ⟨_, (([] : List Int)), H', ⟨by first | omega | exact Nat.le_refl _⟩, ⟨by first | exact Kd.R_nil _ _ _ _ _ | exact Kd.N_nil _ _ _ _ _ | exact Kd.V_nil _ _ _ _ _ | exact Kd.Q_nil _ _ _ _ _ | exact Kd.S_nil _ _ _ _ _⟩, ⟨by (with_reducible repeat (first | refine kN_ ?_ _ | refine kD_ ?_ | refine kA_ ?_ _)); exact BK149.out⟩, ⟨by repeat (first | (with_reducible first | exact HB.out | apply bA_ | apply bN_ | apply b1_ | refine bS_ ?_ GE149.out) | exact HB.out)⟩⟩
 case rest =>
  clear HC4
  obtain ⟨kq, x2_3, HA, HJ3, HO_2, BK149, HB⟩ := hcut
  cases kq with
  | zero => exact absurd HA.out (by simp [isa_Read.j0])
  | succ kj3 =>
   have H := HA.out
   clear HA
   simp only [isa_Read.j0] at H
   replace H := Option.bind_eq_some_iff.mp H
   obtain ⟨t155, A110, H⟩ := H
   replace H : (if t155 = true then (if x2_3.length < 17592186044416 then (some (x2_3 ++ [a0_3])) else (none)) else (some x2_3)) = some r := H
   have A11 := As_.mk A110
   clear A110
   by_cases c12 : t155 = true
   ·subst c12
    have H1 : (if x2_3.length < 17592186044416 then (some (x2_3 ++ [a0_3])) else (none)) = some r := by rw [if_pos rfl] at H; exact H
    clear H
    have H := H1
    clear H1
    by_cases c13 : x2_3.length < 17592186044416
    ·rw [if_pos c13] at H
     have LMc13 := As_.mk c13
     clear c13
     obtain ⟨y156, hy156⟩ : ∃ y_ : List Int, y_ = (x2_3 ++ [a0_3]) := ⟨_, rfl⟩
     replace H : (some y156) = some r := by first | (rw [hy156]; with_reducible exact H) | (have H2_ := (Option.bind_some _ _).symm.trans H; rw [hy156]; with_reducible exact H2_) | (have H2_ := (Option.bind_some _ _).symm.trans H; with_reducible exact H2_) | with_reducible exact H | (rw [hy156]; exact H) | exact H
     have Ny156 := As_.mk hy156
     clear hy156
     obtain rfl := Option.some.inj H
     go_wp2_with (first | ((with_reducible refine gC_ (f := 101) rfl ?_); refine goesL_ (some 15) rfl rfl Try.func101 (by kernel_rfl) rfl #[.int .i64 t150] rfl (by (try simp only [List.map_toArray, List.map_cons, List.map_nil]); first | done | rfl) ?_; (with_reducible refine (isa_HasB.calls t150 true _ A11.out).mono ?_); rintro e w' ⟨rfl, ⟨nd, rfl⟩⟩; refine ⟨_, rfl, ?_⟩; have hcz14_0 : wc.cell? ⟨gb149, 0, none⟩ = some (.int .i64 a0_0) := (bC_ BK149.out 0).trans rfl; have hcz14_1 : wc.cell? ⟨gb149, 1, none⟩ = some (.int .i64 a0_1) := (bC_ BK149.out 1).trans rfl; have hcz14_2 : wc.cell? ⟨gb149, 2, none⟩ = some (.int .i64 a0_2) := (bC_ BK149.out 2).trans rfl; have hcz14_3 : wc.cell? ⟨gb149, 3, none⟩ = some (.int .i64 a0_3) := (bC_ BK149.out 3).trans rfl; have hcz14_4 : wc.cell? ⟨gb149, 4, none⟩ = some (.int .i64 a0_4) := (bC_ BK149.out 4).trans rfl; have hcz14_5 : wc.cell? ⟨gb149, 5, none⟩ = some (.string a0_5) := (bC_ BK149.out 5).trans rfl; have hfz14_0 := bZ_ BK149.out 0; have hfz14_1 := bZ_ BK149.out 1; have hfz14_2 := bZ_ BK149.out 2; have hfz14_3 := bZ_ BK149.out 3; have hfz14_4 := bZ_ BK149.out 4; have hfz14_5 := bZ_ BK149.out 5) | ((with_reducible refine gate_builtin (b := .append) (xs := #[.tmp 16, .tmp 19]) rfl ?_); at_builtin; refine Kd.R_append (Kd.int .i64) (w0 := w) w.heap.size rfl (.tmp 16) (.tmp 19) 25 3 (.int .i64 0) 8 rfl Try.underlying25 info3 rfl (by decide) (by omega) u2 x2_3 a0_3 [.int .i64 a0_3] (fun _ => True) (fun _ => False) rfl rfl ?aP (fun _ hk => hk.elim) ?aF ?aO ?aB ?aS ?aL ?_; (case aP => exact rfl); (case aB => exact (by repeat (first | (with_reducible first | exact HB.out | apply bA_ | apply bN_ | apply b1_ | refine bS_ ?_ GE149.out) | exact HB.out))); (case aF => exact (fun _ _ => trivial)); (case aO => exact (by (with_reducible repeat (first | apply Kd.R_alloc | apply Kd.R_drewN | apply Kd.R_drew)); exact HO_2.out)); (case aS => exact (bY_ (by repeat (first | (with_reducible first | exact HB.out | apply bA_ | apply bN_ | apply b1_ | refine bS_ ?_ GE149.out) | exact HB.out)))); (case aL => have := LMc13.out; omega); intro v157 w15 ho hb hg hat; rw [← Ny156.out] at ho; have n0_ := As_.mk (blk_grown (g := gb149) (o := .cells #[.int .i64 a0_0, .int .i64 a0_1, .int .i64 a0_2, .int .i64 a0_3, .int .i64 a0_4, .string a0_5] 24 (0, 0)) (by (with_reducible repeat (first | refine kN_ ?_ _ | refine kD_ ?_ | refine kA_ ?_ _)); exact BK149.out) hg (Kd.R_ne HO_2.out BK149.out (by decide))); have n1_ := As_.mk (hb); have n2_ := As_.mk (ho); clear BK149; clear HB; clear HO_2; have BK149 := n0_; have HB := n1_; have HO158 := n2_; clear n0_ n1_ n2_; clear ho hb hg hat))
     go_ret
     exact ⟨_, by first | rfl | (simp [eN_, eS_] <;> rfl) | (simp [*, eN_, eS_] <;> rfl), by (with_reducible repeat (first | apply Kd.R_alloc | apply Kd.R_drewN | apply Kd.R_drew)); exact HO158.out, by repeat (first | (with_reducible first | exact HB.out | apply bA_ | apply bN_ | apply b1_ | refine bS_ ?_ GE149.out) | exact HB.out)⟩
    rw [if_neg c13] at H
    exact absurd H (by simp)
   replace c12 := Bool.eq_false_iff.mpr c12
   subst c12
   have H1 : (some x2_3) = some r := by rw [if_neg (show ¬ (false = true) by decide)] at H; exact H
   clear H
   have H := H1
   clear H1
   obtain rfl := Option.some.inj H
   go_wp2_with (first | ((with_reducible refine gC_ (f := 101) rfl ?_); refine goesL_ (some 15) rfl rfl Try.func101 (by kernel_rfl) rfl #[.int .i64 t150] rfl (by (try simp only [List.map_toArray, List.map_cons, List.map_nil]); first | done | rfl) ?_; (with_reducible refine (isa_HasB.calls t150 false _ A11.out).mono ?_); rintro e w' ⟨rfl, ⟨nd, rfl⟩⟩; refine ⟨_, rfl, ?_⟩))
   go_ret
   exact ⟨_, by first | rfl | (simp [eN_, eS_] <;> rfl) | (simp [*, eN_, eS_] <;> rfl), by (with_reducible repeat (first | apply Kd.R_alloc | apply Kd.R_drewN | apply Kd.R_drew)); exact HO_2.out, by repeat (first | (with_reducible first | exact HB.out | apply bA_ | apply bN_ | apply b1_ | refine bS_ ?_ GE149.out) | exact HB.out)⟩
end Go.Proofs.Ytibfkkjkahpobaa.PDag
end
section
-- the texts that this claim needs, out of this session's and its print's (wip/shrink.py)
set_option linter.unusedSimpArgs false
set_option linter.unusedVariables false
namespace Go.Proofs.Ytibfkkjkahpobaa.PDag
open Go.RowKit Go.Proofs.YtibfkkjkahpobaaW.PrintWords Go.Proofs.YtibfkkjkahpobaaW.PrintLast Go.Proofs.YtibfkkjkahpobaaW.PrintMore
def dag_reads.f (k : Nat) (a0_0 a0_1 a0_2 a0_3 a0_4 : Int) (a0_5 : ByteArray) (a1_0 a1_1 a1_2 a1_3 a1_4 : Int) (a1_5 : ByteArray) : Option Bool :=
  (isa_Read.f k a0_0 a0_1 a0_2 a0_3 a0_4 a0_5).bind fun l => (sC_121.f k l a1_0 a1_1 a1_2 a1_3 a1_4 a1_5).bind fun t => some t.1
set_option maxRecDepth 100000 in
set_option maxHeartbeats 4000000 in
theorem dag_reads.calls (k : Nat) (a0_0 : Int) (a0_1 : Int) (a0_2 : Int) (a0_3 : Int) (a0_4 : Int) (a0_5 : ByteArray) (a1_0 : Int) (a1_1 : Int) (a1_2 : Int) (a1_3 : Int) (a1_4 : Int) (a1_5 : ByteArray) (r : Bool) (w : World) (h : dag_reads.f k a0_0 a0_1 a0_2 a0_3 a0_4 a0_5 a1_0 a1_1 a1_2 a1_3 a1_4 a1_5 = some r) :
    Calls Try.prog 103 #[.agg #[.int .i64 a0_0, .int .i64 a0_1, .int .i64 a0_2, .int .i64 a0_3, .int .i64 a0_4, .string a0_5], .agg #[.int .i64 a1_0, .int .i64 a1_1, .int .i64 a1_2, .int .i64 a1_3, .int .i64 a1_4, .string a1_5]] w fun e w' => e = .returned (.bool r) ∧ Below w.heap.size w w' := by
  have hu24 := Try.underlying24
  unfold dag_reads.f at h
  obtain ⟨rs, h1, h⟩ := Option.bind_eq_some_iff.mp h
  obtain ⟨⟨t1, t2, t3, t4, t5, t6, t7⟩, h2, h⟩ := Option.bind_eq_some_iff.mp h
  obtain rfl := Option.some.inj h
  have H1 := As_.mk h1
  have H2 := As_.mk h2
  clear h h1 h2
  have HB := As_.mk (Below.refl w.heap.size w)
  go_enter Try.func103, Try.ntmps103
  go_wp2_with (first | ((with_reducible refine gate_dst (N := 2) rfl ?_); refine box_event ?hg (N := 2) ?hd (cs := #[.int .i64 a0_0, .int .i64 a0_1, .int .i64 a0_2, .int .i64 a0_3, .int .i64 a0_4, .string a0_5]) (t := 24) ?hr ?_; (case hd => rfl); (case hg => rfl); (case hr => first | (go_simp; done) | (go_simp; rfl)); intro g2 hg w2 hbox hb; have hc0 := (bC_ hbox 0).trans rfl; have BX2 := As_.mk hbox; have HG2 := As_.mk hg; have HB2 := As_.mk hb; clear hbox hg hb)  | ((with_reducible refine gate_dst (N := 3) rfl ?_); refine box_event ?hg (N := 3) ?hd (cs := #[.int .i64 a1_0, .int .i64 a1_1, .int .i64 a1_2, .int .i64 a1_3, .int .i64 a1_4, .string a1_5]) (t := 24) ?hr ?_; (case hd => rfl); (case hg => rfl); (case hr => first | (go_simp; done) | (go_simp; rfl)); intro g3 hg w3 hbox hb; have q0 := (bC_ (kB_ BX2.out hb) 0).trans rfl; have q1 := (bC_ (kB_ BX2.out hb) 1).trans rfl; have q2 := (bC_ (kB_ BX2.out hb) 2).trans rfl; have q3 := (bC_ (kB_ BX2.out hb) 3).trans rfl; have q4 := (bC_ (kB_ BX2.out hb) 4).trans rfl; have q5 := (bC_ (kB_ BX2.out hb) 5).trans rfl; have BX3 := As_.mk hbox; have HG3 := As_.mk hg; have HB3 := As_.mk hb; clear hbox hg hb)  | (go_at_call 120; (with_reducible refine (isa_Read.calls k a0_0 a0_1 a0_2 a0_3 a0_4 a0_5 rs _ H1.out).mono ?_); rintro e w4 ⟨v4, rfl, ho, hb⟩; obtain ⟨Ao, co, eo⟩ := Kd.R_slice ho; subst eo; have HO := As_.mk ho; have HB4 := As_.mk hb; clear ho hb)  | (go_at_call 62; (refine (sC_121.calls k Ao co rs g3 a1_0 a1_1 a1_2 a1_3 a1_4 a1_5 t1 t2 t3 t4 t5 t6 t7 w _ ⟨kB_ BX3.out HB4.out, ?_⟩ ?_ (Kd.R_reads' HO.out).2.2 (Kd.R_reads' HO.out).2.1 ?_ H2.out).mono ?_)))
  case refine_1 => have := HG3.out; have := HB2.out.size; omega
  case refine_2 => exact HB2.out.trans ((HB3.out.mono HB2.out.size).trans (HB4.out.mono (Nat.le_trans HB2.out.size HB3.out.size)))
  case refine_3 =>
    intro ad e1 h0
    subst e1
    obtain ⟨g, cap, e2, hb, _⟩ := Kd.R_form HO.out h0
    have e3 : some ad = some ⟨g, 0, none⟩ := (by injection e2)
    obtain rfl := Option.some.inj e3
    have := blk_lt BX3.out
    show g ≠ g3
    omega
  case refine_4 =>
    rintro e w' ⟨rfl, hi, hb, hk⟩
    go_wp2
    go_ret
    exact ⟨rfl, hb⟩
end Go.Proofs.Ytibfkkjkahpobaa.PDag
end
