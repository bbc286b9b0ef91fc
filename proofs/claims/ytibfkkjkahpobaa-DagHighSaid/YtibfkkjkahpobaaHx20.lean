import Derived.Test.YtibfkkjkahpobaaHx15
import Derived.Test.YtibfkkjkahpobaaHx16
set_option linter.unusedVariables false
set_option linter.unusedSimpArgs false
set_option maxHeartbeats 8000000
set_option maxRecDepth 100000
open Go.RowKit Go.Proofs.YtibfkkjkahpobaaW.PrintWords Go.Proofs.YtibfkkjkahpobaaW.PrintLast Go.Proofs.YtibfkkjkahpobaaW.PrintMore
namespace Go.Proofs.Ytibfkkjkahpobaa.PDag
section
attribute [local go_sem] max2_int min2_int max_two min_two max_three min_three max_four min_four
def isa_Read.j0 : Nat → List Int → Int → Int → Int → Int → Int → Int → ByteArray → Option (List Int)
  | 0, _, _, _, _, _, _, _, _ => none
  | k + 1, x2, x3, x150a, x150b, x150c, x150d, x150e, x150f => (isa_HasB.f x3).bind fun t155 => (if t155 = true then (if x2.length < 17592186044416 then (some (x2 ++ [x150d])) else (none)) else (some x2))
def isa_Read.f (k : Nat) (a0_0 : Int) (a0_1 : Int) (a0_2 : Int) (a0_3 : Int) (a0_4 : Int) (a0_5 : ByteArray) : Option (List Int) := (isa_Shape.f k a0_0).bind fun t150 => ((isa_HasA.f k t150).bind fun t151 => (if t151 = true then (if ([] : List Int).length < 17592186044416 then (isa_Read.j0 k (([] : List Int) ++ [a0_2]) t150 a0_0 a0_1 a0_2 a0_3 a0_4 a0_5) else (none)) else (isa_Read.j0 k ([] : List Int) t150 a0_0 a0_1 a0_2 a0_3 a0_4 a0_5)))
theorem isa_Read.mono_l : ∀ k, (∀ y0 y1 y2 y3 y4 y5 y6 y7, LeO (isa_Read.j0 k y0 y1 y2 y3 y4 y5 y6 y7) (isa_Read.j0 (k + 1) y0 y1 y2 y3 y4 y5 y6 y7))
  | 0 => fun _ _ _ _ _ _ _ _ r h => by simp [isa_Read.j0] at h
  | k + 1 => by
    have ih0 := isa_Read.mono_l k
    · intro y0 y1 y2 y3 y4 y5 y6 y7
      unfold isa_Read.j0
      repeat' first
      | (with_reducible exact ih0 _ _ _ _ _ _ _ _)
      | (with_reducible exact isa_HasA.mono _ _)
      | (with_reducible exact isa_Shape.mono _ _)
      | (with_reducible exact LeO.refl _)
      | (with_reducible exact LeO.none _)
      | (with_reducible refine LeO.ite ?_ ?_)
      | (with_reducible refine LeO.bind ?_ (fun _ => ?_))
      | exact LeO.none _
      | refine LeO.ite ?_ ?_
      | refine LeO.bind ?_ (fun _ => ?_)
theorem isa_Read.mono : ∀ a0 a1 a2 a3 a4 a5 k, LeO (isa_Read.f k a0 a1 a2 a3 a4 a5) (isa_Read.f (k + 1) a0 a1 a2 a3 a4 a5) := by
 intro a0 a1 a2 a3 a4 a5 k
 have ih0 := isa_Read.mono_l k
 unfold isa_Read.f
 repeat' first
  | (with_reducible exact ih0 _ _ _ _ _ _ _ _)
  | (with_reducible exact isa_HasA.mono _ _)
  | (with_reducible exact isa_Shape.mono _ _)
  | (with_reducible exact LeO.refl _)
  | (with_reducible exact LeO.none _)
  | (with_reducible refine LeO.ite ?_ ?_)
  | (with_reducible refine LeO.bind ?_ (fun _ => ?_))
  | exact LeO.none _
  | refine LeO.ite ?_ ?_
  | refine LeO.bind ?_ (fun _ => ?_)
theorem isa_Read.calls (k : Nat) (a0_0 : Int) (a0_1 : Int) (a0_2 : Int) (a0_3 : Int) (a0_4 : Int) (a0_5 : ByteArray) (r : List Int) (w : World) (h : isa_Read.f k a0_0 a0_1 a0_2 a0_3 a0_4 a0_5 = some r) :
    Calls Try.prog 120 #[.agg #[.int .i64 a0_0, .int .i64 a0_1, .int .i64 a0_2, .int .i64 a0_3, .int .i64 a0_4, .string a0_5]] w fun e w' => ∃ v0_ : Value, e = .returned (v0_) ∧ Kd.R (Kd.int .i64) 3 w' w.heap.size (fun _ => True) v0_ r ∧ Below w.heap.size w w' := by
 have hu24 := Try.underlying24
 have HB := aM_ (Below.refl w.heap.size w)
 have H : ((isa_Shape.f k a0_0).bind fun t150 => ((isa_HasA.f k t150).bind fun t151 => (if t151 = true then (if ([] : List Int).length < 17592186044416 then (isa_Read.j0 k (([] : List Int) ++ [a0_2]) t150 a0_0 a0_1 a0_2 a0_3 a0_4 a0_5) else (none)) else (isa_Read.j0 k ([] : List Int) t150 a0_0 a0_1 a0_2 a0_3 a0_4 a0_5)))) = some r := h
 clear h
 replace H := oB_ H
 obtain ⟨t150, A2, H⟩ := H
 replace H := oB_ H
 obtain ⟨t151, A3, H⟩ := H
 have HC4 := aM_ H
 clear H
 go_enter Try.func120, Try.ntmps120
 go_upto_if 8 with (first | ((with_reducible refine gate_dst (N := 1) rfl ?_); refine bX_ (N := 1) (cs := #[.int .i64 a0_0, .int .i64 a0_1, .int .i64 a0_2, .int .i64 a0_3, .int .i64 a0_4, .string a0_5]) (t := 24) ?_; intro gb149 hg w5 hbox hb; replace BK149 := aM_ (hbox); replace GW149 := aM_ (gE_ hg (bl_ HB)); replace GE149 := aM_ (gE_ hg (bl_ HB)); replace HB := aM_ (bT_ (bl_ HB) hb); clear hb hbox hg; obtain ⟨hcz6_0, hcz6_1, hcz6_2, hcz6_3, hcz6_4, hcz6_5⟩ := cl6_ BK149.out; obtain ⟨hfz6_0, hfz6_1, hfz6_2, hfz6_3, hfz6_4, hfz6_5⟩ := fz6_ BK149.out) | ((with_reducible refine gC_ (f := 97) rfl ?_); refine gL_ (some 6) Try.func97 #[.int .i64 a0_0] rfl ?_; (with_reducible refine (isa_Shape.calls k a0_0 t150 _ A2.out).mono ?_); rintro e w' ⟨rfl, ⟨nd, rfl⟩⟩; refine ⟨_, rfl, ?_⟩) | ((with_reducible refine gC_ (f := 100) rfl ?_); refine gL_ (some 8) Try.func100 #[.int .i64 t150] rfl ?_; (with_reducible refine (isa_HasA.calls k t150 t151 _ A3.out).mono ?_); rintro e w' ⟨rfl, ⟨nd, rfl⟩⟩; refine ⟨_, rfl, ?_⟩))
 (try simp only [Act.put, List.setIfInBounds_toArray, List.set_cons_zero, List.set_cons_succ])
 go_cut [2] (fun v2 wc => ∃ (kq : Nat) (x2_3 : List Int), As_ (isa_Read.j0 kq x2_3 t150 a0_0 a0_1 a0_2 a0_3 a0_4 a0_5 = some r) ∧ As_ (kq ≤ k) ∧ As_ (Kd.R (Kd.int .i64) 3 wc w.heap.size (fun _ => True) v2 x2_3) ∧ As_ (wc.heap[gb149]? = some (.cells #[.int .i64 a0_0, .int .i64 a0_1, .int .i64 a0_2, .int .i64 a0_3, .int .i64 a0_4, .string a0_5] 24 (0, 0))) ∧ As_ (Below w.heap.size w wc))
 case first =>
  have H := HC4.out
  clear HC4
  by_cases c7 : t151 = true
  ·subst c7
   rw [if_pos rfl] at H
   by_cases c8 : ([] : List Int).length < 17592186044416
   ·rw [if_pos c8] at H
    have LMc8 := aM_ c8
    clear c8
    obtain ⟨y152, hy152⟩ : ∃ y_ : List Int, y_ = (([] : List Int) ++ [a0_2]) := ⟨_, rfl⟩
    replace H : (isa_Read.j0 k y152 t150 a0_0 a0_1 a0_2 a0_3 a0_4 a0_5) = some r := by first | (rw [hy152]; with_reducible exact H) | (have H2_ := (Option.bind_some _ _).symm.trans H; rw [hy152]; with_reducible exact H2_) | (have H2_ := (Option.bind_some _ _).symm.trans H; with_reducible exact H2_) | with_reducible exact H | (rw [hy152]; exact H) | exact H
    have Ny152 := aM_ hy152
    clear hy152
    replace H := aM_ H
    obtain ⟨hcz9_0, hcz9_1, hcz9_2, hcz9_3, hcz9_4, hcz9_5⟩ := cl6_ BK149.out
    obtain ⟨hfz9_0, hfz9_1, hfz9_2, hfz9_3, hfz9_4, hfz9_5⟩ := fz6_ BK149.out
    go_wp2_with (first | ((with_reducible refine gate_builtin (b := .append) (xs := #[.tmp 9, .tmp 12]) rfl ?_); at_builtin; refine Kd.R_append (Kd.int .i64) (w0 := w) w.heap.size rfl (.tmp 9) (.tmp 12) 25 3 (.int .i64 0) 8 rfl Try.underlying25 info3 rfl (by decide) (by omega) (.slice none 0 0) ([] : List Int) a0_2 [.int .i64 a0_2] (fun _ => True) (fun _ => False) rfl rfl ?aP (fun _ hk => hk.elim) ?aF ?aO ?aB ?aS ?aL ?_; (case aP => exact rfl); (case aB => exact (bs_ HB GE149)); (case aF => exact (fun _ _ => trivial)); (case aO => exact ((Kd.R_nil _ _ _ _ (fun _ => True)))); (case aS => exact (bY_ (bs_ HB GE149))); (case aL => have := LMc8.out; omega); intro v153 w10 ho hb hg hat; rw [← Ny152.out] at ho; replace BK149 := aM_ (blk_grown (g := gb149) (o := .cells #[.int .i64 a0_0, .int .i64 a0_1, .int .i64 a0_2, .int .i64 a0_3, .int .i64 a0_4, .string a0_5] 24 (0, 0)) (rB_ BK149) hg (by simp [Value.ownBlock])); replace HB := aM_ (hb); replace HO154 := aM_ (ho); clear ho hb hg hat))
    go_meet
    case rel => exact ⟨_, (y152), H, ⟨by first | omega | exact Nat.le_refl _⟩, ⟨rR_ HO154⟩, ⟨rB_ BK149⟩, ⟨bs_ HB GE149⟩⟩
   rw [if_neg c8] at H
   exact absurd H (by simp)
  replace c7 := eF_ c7
  subst c7
  rw [if_neg Bool.false_ne_true] at H
  replace H := aM_ H
  go_wp2
  go_meet
  case rel => exact ⟨_, (([] : List Int)), H, ⟨by first | omega | exact Nat.le_refl _⟩, ⟨by first | exact Kd.R_nil _ _ _ _ _ | exact Kd.N_nil _ _ _ _ _ | exact Kd.V_nil _ _ _ _ _ | exact Kd.Q_nil _ _ _ _ _ | exact Kd.S_nil _ _ _ _ _⟩, ⟨rB_ BK149⟩, ⟨bs_ HB GE149⟩⟩
 case rest =>
  clear HC4
  obtain ⟨kq, x2_3, HA, HJ3, HO_2, BK149, HB⟩ := hcut
  cases kq with
  | zero => exact absurd HA.out (by simp [isa_Read.j0])
  | succ kj3 =>
   have H := HA.out
   clear HA
   simp only [isa_Read.j0] at H
   replace H := oB_ H
   obtain ⟨t155, A11, H⟩ := H
   by_cases c12 : t155 = true
   ·subst c12
    rw [if_pos rfl] at H
    by_cases c13 : x2_3.length < 17592186044416
    ·rw [if_pos c13] at H
     have LMc13 := aM_ c13
     clear c13
     obtain ⟨y156, hy156⟩ : ∃ y_ : List Int, y_ = (x2_3 ++ [a0_3]) := ⟨_, rfl⟩
     replace H : (some y156) = some r := by first | (rw [hy156]; with_reducible exact H) | (have H2_ := (Option.bind_some _ _).symm.trans H; rw [hy156]; with_reducible exact H2_) | (have H2_ := (Option.bind_some _ _).symm.trans H; with_reducible exact H2_) | with_reducible exact H | (rw [hy156]; exact H) | exact H
     have Ny156 := aM_ hy156
     clear hy156
     obtain rfl := oI_ H
     go_wp2_with (first | ((with_reducible refine gC_ (f := 101) rfl ?_); refine gL_ (some 15) Try.func101 #[.int .i64 t150] rfl ?_; (with_reducible refine (isa_HasB.calls t150 true _ A11.out).mono ?_); rintro e w' ⟨rfl, ⟨nd, rfl⟩⟩; refine ⟨_, rfl, ?_⟩; obtain ⟨hcz14_0, hcz14_1, hcz14_2, hcz14_3, hcz14_4, hcz14_5⟩ := cl6_ BK149.out; obtain ⟨hfz14_0, hfz14_1, hfz14_2, hfz14_3, hfz14_4, hfz14_5⟩ := fz6_ BK149.out) | ((with_reducible refine gate_builtin (b := .append) (xs := #[.tmp 16, .tmp 19]) rfl ?_); at_builtin; refine Kd.R_append (Kd.int .i64) (w0 := w) w.heap.size rfl (.tmp 16) (.tmp 19) 25 3 (.int .i64 0) 8 rfl Try.underlying25 info3 rfl (by decide) (by omega) u2 x2_3 a0_3 [.int .i64 a0_3] (fun _ => True) (fun _ => False) rfl rfl ?aP (fun _ hk => hk.elim) ?aF ?aO ?aB ?aS ?aL ?_; (case aP => exact rfl); (case aB => exact (bs_ HB GE149)); (case aF => exact (fun _ _ => trivial)); (case aO => exact (rR_ HO_2)); (case aS => exact (bY_ (bs_ HB GE149))); (case aL => have := LMc13.out; omega); intro v157 w15 ho hb hg hat; rw [← Ny156.out] at ho; replace BK149 := aM_ (blk_grown (g := gb149) (o := .cells #[.int .i64 a0_0, .int .i64 a0_1, .int .i64 a0_2, .int .i64 a0_3, .int .i64 a0_4, .string a0_5] 24 (0, 0)) (rB_ BK149) hg (Kd.R_ne HO_2.out BK149.out (by decide))); replace HB := aM_ (hb); replace HO158 := aM_ (ho); clear HO_2; clear ho hb hg hat))
     go_ret
     exact ⟨_, eR_, rR_ HO158, bs_ HB GE149⟩
    rw [if_neg c13] at H
    exact absurd H (by simp)
   replace c12 := eF_ c12
   subst c12
   rw [if_neg Bool.false_ne_true] at H
   obtain rfl := oI_ H
   go_wp2_with (first | ((with_reducible refine gC_ (f := 101) rfl ?_); refine gL_ (some 15) Try.func101 #[.int .i64 t150] rfl ?_; (with_reducible refine (isa_HasB.calls t150 false _ A11.out).mono ?_); rintro e w' ⟨rfl, ⟨nd, rfl⟩⟩; refine ⟨_, rfl, ?_⟩))
   go_ret
   exact ⟨_, eR_, rR_ HO_2, bs_ HB GE149⟩
end
section
def dag_reads.f (k : Nat) (a0_0 a0_1 a0_2 a0_3 a0_4 : Int) (a0_5 : ByteArray) (a1_0 a1_1 a1_2 a1_3 a1_4 : Int) (a1_5 : ByteArray) : Option Bool :=
  (isa_Read.f k a0_0 a0_1 a0_2 a0_3 a0_4 a0_5).bind fun l => (sC_121.f k l a1_0 a1_1 a1_2 a1_3 a1_4 a1_5).bind fun t => some t.1
theorem dag_reads.mono : ∀ a0 a1 a2 a3 a4 a5 a6 a7 a8 a9 a10 a11 k, LeO (dag_reads.f k a0 a1 a2 a3 a4 a5 a6 a7 a8 a9 a10 a11) (dag_reads.f (k + 1) a0 a1 a2 a3 a4 a5 a6 a7 a8 a9 a10 a11) := by
  intro a0 a1 a2 a3 a4 a5 a6 a7 a8 a9 a10 a11 k
  unfold dag_reads.f
  exact LeO.bind (isa_Read.mono _ _ _ _ _ _ _) (fun _ => LeO.bind (sC_121.mono _ _ _ _ _ _ _ _) (fun _ => LeO.refl _))
theorem dag_reads.calls (k : Nat) (a0_0 : Int) (a0_1 : Int) (a0_2 : Int) (a0_3 : Int) (a0_4 : Int) (a0_5 : ByteArray) (a1_0 : Int) (a1_1 : Int) (a1_2 : Int) (a1_3 : Int) (a1_4 : Int) (a1_5 : ByteArray) (r : Bool) (w : World) (h : dag_reads.f k a0_0 a0_1 a0_2 a0_3 a0_4 a0_5 a1_0 a1_1 a1_2 a1_3 a1_4 a1_5 = some r) :
    Calls Try.prog 103 #[.agg #[.int .i64 a0_0, .int .i64 a0_1, .int .i64 a0_2, .int .i64 a0_3, .int .i64 a0_4, .string a0_5], .agg #[.int .i64 a1_0, .int .i64 a1_1, .int .i64 a1_2, .int .i64 a1_3, .int .i64 a1_4, .string a1_5]] w fun e w' => e = .returned (.bool r) ∧ Below w.heap.size w w' := by
  have hu24 := Try.underlying24
  unfold dag_reads.f at h
  obtain ⟨rs, h1, h⟩ := Option.bind_eq_some_iff.mp h
  obtain ⟨⟨t1, t2, t3, t4, t5, t6, t7⟩, h2, h⟩ := Option.bind_eq_some_iff.mp h
  obtain rfl := Option.some.inj h
  have H1 := aM_ h1
  have H2 := aM_ h2
  clear h h1 h2
  have HB := aM_ (Below.refl w.heap.size w)
  go_enter Try.func103, Try.ntmps103
  go_wp2_with (first | ((with_reducible refine gate_dst (N := 2) rfl ?_); refine bX_ (N := 2) (cs := #[.int .i64 a0_0, .int .i64 a0_1, .int .i64 a0_2, .int .i64 a0_3, .int .i64 a0_4, .string a0_5]) (t := 24) ?_; intro g2 hg w2 hbox hb; have hc0 := (bC_ hbox 0).trans rfl; have BX2 := aM_ hbox; have HG2 := aM_ hg; have HB2 := aM_ hb; clear hbox hg hb)  | ((with_reducible refine gate_dst (N := 3) rfl ?_); refine bX_ (N := 3) (cs := #[.int .i64 a1_0, .int .i64 a1_1, .int .i64 a1_2, .int .i64 a1_3, .int .i64 a1_4, .string a1_5]) (t := 24) ?_; intro g3 hg w3 hbox hb; have q0 := (bC_ (kB_ BX2.out hb) 0).trans rfl; have q1 := (bC_ (kB_ BX2.out hb) 1).trans rfl; have q2 := (bC_ (kB_ BX2.out hb) 2).trans rfl; have q3 := (bC_ (kB_ BX2.out hb) 3).trans rfl; have q4 := (bC_ (kB_ BX2.out hb) 4).trans rfl; have q5 := (bC_ (kB_ BX2.out hb) 5).trans rfl; have BX3 := aM_ hbox; have HG3 := aM_ hg; have HB3 := aM_ hb; clear hbox hg hb)  | (go_at_call 120; (with_reducible refine (isa_Read.calls k a0_0 a0_1 a0_2 a0_3 a0_4 a0_5 rs _ H1.out).mono ?_); rintro e w4 ⟨v4, rfl, ho, hb⟩; obtain ⟨Ao, co, eo⟩ := Kd.R_slice ho; subst eo; have HO := aM_ ho; have HB4 := aM_ hb; clear ho hb)  | (go_at_call 62; (refine (sC_121.calls k Ao co rs g3 a1_0 a1_1 a1_2 a1_3 a1_4 a1_5 t1 t2 t3 t4 t5 t6 t7 w _ ⟨kB_ BX3.out HB4.out, ?_⟩ ?_ (Kd.R_reads' HO.out).2.2 (Kd.R_reads' HO.out).2.1 ?_ H2.out).mono ?_)))
  case refine_1 => have := HG3.out; have := HB2.out.size; omega
  case refine_2 => exact HB2.out.trans ((HB3.out.mono HB2.out.size).trans (HB4.out.mono (Nat.le_trans HB2.out.size HB3.out.size)))
  case refine_3 =>
    intro ad e1 h0
    subst e1
    obtain ⟨g, cap, e2, hb, _⟩ := Kd.R_form HO.out h0
    have e3 : some ad = some ⟨g, 0, none⟩ := (by injection e2)
    obtain rfl := Option.some.inj e3
    have := blk_lt BX3.out
    show g ≠ g3
    omega
  case refine_4 =>
    rintro e w' ⟨rfl, hi, hb, hk⟩
    go_wp2
    go_ret
    exact ⟨rfl, hb⟩
end
section
attribute [local go_sem] max2_int min2_int max_two min_two max_three min_three max_four min_four
mutual
def dag_dist.j0 : Nat → Int → Int → Int → Int → Int → Int → ByteArray → Int → Int → Int → Int → Int → ByteArray → Option (Int)
  | 0, _, _, _, _, _, _, _, _, _, _, _, _, _ => none
  | k + 1, x5, x160a, x160b, x160c, x160d, x160e, x160f, x161a, x161b, x161c, x161d, x161e, x161f => (isa_Effect.f k x160a).bind fun t162 => (if t162 = true then ((isa_Effect.f k x161a).bind fun t163 => (dag_dist.j1 k x5 t163 x160a x160b x160c x160d x160e x160f x161a x161b x161c x161d x161e x161f)) else (dag_dist.j1 k x5 false x160a x160b x160c x160d x160e x160f x161a x161b x161c x161d x161e x161f))
def dag_dist.j1 : Nat → Int → Bool → Int → Int → Int → Int → Int → ByteArray → Int → Int → Int → Int → Int → ByteArray → Option (Int)
  | 0, _, _, _, _, _, _, _, _, _, _, _, _, _, _ => none
  | k + 1, x5, x16, x160a, x160b, x160c, x160d, x160e, x160f, x161a, x161b, x161c, x161d, x161e, x161f => if x16 = true then (dag_dist.j2 k 1 x160a x160b x160c x160d x160e x160f x161a x161b x161c x161d x161e x161f) else (dag_dist.j2 k x5 x160a x160b x160c x160d x160e x160f x161a x161b x161c x161d x161e x161f)
def dag_dist.j2 : Nat → Int → Int → Int → Int → Int → Int → ByteArray → Int → Int → Int → Int → Int → ByteArray → Option (Int)
  | 0, _, _, _, _, _, _, _, _, _, _, _, _, _ => none
  | k + 1, x5, x160a, x160b, x160c, x160d, x160e, x160f, x161a, x161b, x161c, x161d, x161e, x161f => (dag_reads.f k x161a x161b x161c x161d x161e x161f x160a x160b x160c x160d x160e x160f).bind fun t164 => (if t164 = true then (dag_dist.j3 k x5 true x160a x160b x160c x160d x160e x160f) else ((isa_Shape.f k x161a).bind fun t165 => ((isa_HasD.f t165).bind fun t166 => (if t166 = true then ((dag_writes.f k x160a x160b x160c x160d x160e x160f x161b).bind fun t167 => (dag_dist.j3 k x5 t167 x160a x160b x160c x160d x160e x160f)) else (dag_dist.j3 k x5 false x160a x160b x160c x160d x160e x160f)))))
def dag_dist.j3 : Nat → Int → Bool → Int → Int → Int → Int → Int → ByteArray → Option (Int)
  | 0, _, _, _, _, _, _, _, _ => none
  | k + 1, x5, x31, x160a, x160b, x160c, x160d, x160e, x160f => if x31 = true then ((isa_Late.f k x160a).bind fun t168 => (some (mx x5 t168))) else (some x5)
end
def dag_dist.f (k : Nat) (a0_0 : Int) (a0_1 : Int) (a0_2 : Int) (a0_3 : Int) (a0_4 : Int) (a0_5 : ByteArray) (a1_0 : Int) (a1_1 : Int) (a1_2 : Int) (a1_3 : Int) (a1_4 : Int) (a1_5 : ByteArray) : Option (Int) := (dag_reads.f k a0_0 a0_1 a0_2 a0_3 a0_4 a0_5 a1_0 a1_1 a1_2 a1_3 a1_4 a1_5).bind fun t161 => (if t161 = true then (dag_dist.j0 k 0 a0_0 a0_1 a0_2 a0_3 a0_4 a0_5 a1_0 a1_1 a1_2 a1_3 a1_4 a1_5) else (dag_dist.j0 k (-1) a0_0 a0_1 a0_2 a0_3 a0_4 a0_5 a1_0 a1_1 a1_2 a1_3 a1_4 a1_5))
theorem dag_dist.mono_l : ∀ k, (∀ y0 y1 y2 y3 y4 y5 y6 y7 y8 y9 y10 y11 y12, LeO (dag_dist.j0 k y0 y1 y2 y3 y4 y5 y6 y7 y8 y9 y10 y11 y12) (dag_dist.j0 (k + 1) y0 y1 y2 y3 y4 y5 y6 y7 y8 y9 y10 y11 y12)) ∧ (∀ y0 y1 y2 y3 y4 y5 y6 y7 y8 y9 y10 y11 y12 y13, LeO (dag_dist.j1 k y0 y1 y2 y3 y4 y5 y6 y7 y8 y9 y10 y11 y12 y13) (dag_dist.j1 (k + 1) y0 y1 y2 y3 y4 y5 y6 y7 y8 y9 y10 y11 y12 y13)) ∧ (∀ y0 y1 y2 y3 y4 y5 y6 y7 y8 y9 y10 y11 y12, LeO (dag_dist.j2 k y0 y1 y2 y3 y4 y5 y6 y7 y8 y9 y10 y11 y12) (dag_dist.j2 (k + 1) y0 y1 y2 y3 y4 y5 y6 y7 y8 y9 y10 y11 y12)) ∧ (∀ y0 y1 y2 y3 y4 y5 y6 y7, LeO (dag_dist.j3 k y0 y1 y2 y3 y4 y5 y6 y7) (dag_dist.j3 (k + 1) y0 y1 y2 y3 y4 y5 y6 y7))
  | 0 => ⟨fun _ _ _ _ _ _ _ _ _ _ _ _ _ r h => by simp [dag_dist.j0] at h, fun _ _ _ _ _ _ _ _ _ _ _ _ _ _ r h => by simp [dag_dist.j1] at h, fun _ _ _ _ _ _ _ _ _ _ _ _ _ r h => by simp [dag_dist.j2] at h, fun _ _ _ _ _ _ _ _ r h => by simp [dag_dist.j3] at h⟩
  | k + 1 => by
    obtain ⟨ih0, ih1, ih2, ih3⟩ := dag_dist.mono_l k
    refine ⟨?_, ?_, ?_, ?_⟩
    · intro y0 y1 y2 y3 y4 y5 y6 y7 y8 y9 y10 y11 y12
      unfold dag_dist.j0
      repeat' first
      | (with_reducible exact ih0 _ _ _ _ _ _ _ _ _ _ _ _ _)
      | (with_reducible exact ih1 _ _ _ _ _ _ _ _ _ _ _ _ _ _)
      | (with_reducible exact ih2 _ _ _ _ _ _ _ _ _ _ _ _ _)
      | (with_reducible exact ih3 _ _ _ _ _ _ _ _)
      | (with_reducible exact dag_reads.mono _ _ _ _ _ _ _ _ _ _ _ _ _)
      | (with_reducible exact dag_writes.mono _ _ _ _ _ _ _ _)
      | (with_reducible exact isa_Effect.mono _ _)
      | (with_reducible exact isa_Late.mono _ _)
      | (with_reducible exact isa_Shape.mono _ _)
      | (with_reducible exact LeO.refl _)
      | (with_reducible exact LeO.none _)
      | (with_reducible refine LeO.ite ?_ ?_)
      | (with_reducible refine LeO.bind ?_ (fun _ => ?_))
      | exact LeO.none _
      | refine LeO.ite ?_ ?_
      | refine LeO.bind ?_ (fun _ => ?_)
    · intro y0 y1 y2 y3 y4 y5 y6 y7 y8 y9 y10 y11 y12 y13
      unfold dag_dist.j1
      repeat' first
      | (with_reducible exact ih0 _ _ _ _ _ _ _ _ _ _ _ _ _)
      | (with_reducible exact ih1 _ _ _ _ _ _ _ _ _ _ _ _ _ _)
      | (with_reducible exact ih2 _ _ _ _ _ _ _ _ _ _ _ _ _)
      | (with_reducible exact ih3 _ _ _ _ _ _ _ _)
      | (with_reducible exact dag_reads.mono _ _ _ _ _ _ _ _ _ _ _ _ _)
      | (with_reducible exact dag_writes.mono _ _ _ _ _ _ _ _)
      | (with_reducible exact isa_Effect.mono _ _)
      | (with_reducible exact isa_Late.mono _ _)
      | (with_reducible exact isa_Shape.mono _ _)
      | (with_reducible exact LeO.refl _)
      | (with_reducible exact LeO.none _)
      | (with_reducible refine LeO.ite ?_ ?_)
      | (with_reducible refine LeO.bind ?_ (fun _ => ?_))
      | exact LeO.none _
      | refine LeO.ite ?_ ?_
      | refine LeO.bind ?_ (fun _ => ?_)
    · intro y0 y1 y2 y3 y4 y5 y6 y7 y8 y9 y10 y11 y12
      unfold dag_dist.j2
      repeat' first
      | (with_reducible exact ih0 _ _ _ _ _ _ _ _ _ _ _ _ _)
      | (with_reducible exact ih1 _ _ _ _ _ _ _ _ _ _ _ _ _ _)
      | (with_reducible exact ih2 _ _ _ _ _ _ _ _ _ _ _ _ _)
      | (with_reducible exact ih3 _ _ _ _ _ _ _ _)
      | (with_reducible exact dag_reads.mono _ _ _ _ _ _ _ _ _ _ _ _ _)
      | (with_reducible exact dag_writes.mono _ _ _ _ _ _ _ _)
      | (with_reducible exact isa_Effect.mono _ _)
      | (with_reducible exact isa_Late.mono _ _)
      | (with_reducible exact isa_Shape.mono _ _)
      | (with_reducible exact LeO.refl _)
      | (with_reducible exact LeO.none _)
      | (with_reducible refine LeO.ite ?_ ?_)
      | (with_reducible refine LeO.bind ?_ (fun _ => ?_))
      | exact LeO.none _
      | refine LeO.ite ?_ ?_
      | refine LeO.bind ?_ (fun _ => ?_)
    · intro y0 y1 y2 y3 y4 y5 y6 y7
      unfold dag_dist.j3
      repeat' first
      | (with_reducible exact ih0 _ _ _ _ _ _ _ _ _ _ _ _ _)
      | (with_reducible exact ih1 _ _ _ _ _ _ _ _ _ _ _ _ _ _)
      | (with_reducible exact ih2 _ _ _ _ _ _ _ _ _ _ _ _ _)
      | (with_reducible exact ih3 _ _ _ _ _ _ _ _)
      | (with_reducible exact dag_reads.mono _ _ _ _ _ _ _ _ _ _ _ _ _)
      | (with_reducible exact dag_writes.mono _ _ _ _ _ _ _ _)
      | (with_reducible exact isa_Effect.mono _ _)
      | (with_reducible exact isa_Late.mono _ _)
      | (with_reducible exact isa_Shape.mono _ _)
      | (with_reducible exact LeO.refl _)
      | (with_reducible exact LeO.none _)
      | (with_reducible refine LeO.ite ?_ ?_)
      | (with_reducible refine LeO.bind ?_ (fun _ => ?_))
      | exact LeO.none _
      | refine LeO.ite ?_ ?_
      | refine LeO.bind ?_ (fun _ => ?_)
theorem dag_dist.mono : ∀ a0 a1 a2 a3 a4 a5 a6 a7 a8 a9 a10 a11 k, LeO (dag_dist.f k a0 a1 a2 a3 a4 a5 a6 a7 a8 a9 a10 a11) (dag_dist.f (k + 1) a0 a1 a2 a3 a4 a5 a6 a7 a8 a9 a10 a11) := by
 intro a0 a1 a2 a3 a4 a5 a6 a7 a8 a9 a10 a11 k
 obtain ⟨ih0, ih1, ih2, ih3⟩ := dag_dist.mono_l k
 unfold dag_dist.f
 repeat' first
  | (with_reducible exact ih0 _ _ _ _ _ _ _ _ _ _ _ _ _)
  | (with_reducible exact ih1 _ _ _ _ _ _ _ _ _ _ _ _ _ _)
  | (with_reducible exact ih2 _ _ _ _ _ _ _ _ _ _ _ _ _)
  | (with_reducible exact ih3 _ _ _ _ _ _ _ _)
  | (with_reducible exact dag_reads.mono _ _ _ _ _ _ _ _ _ _ _ _ _)
  | (with_reducible exact dag_writes.mono _ _ _ _ _ _ _ _)
  | (with_reducible exact isa_Effect.mono _ _)
  | (with_reducible exact isa_Late.mono _ _)
  | (with_reducible exact isa_Shape.mono _ _)
  | (with_reducible exact LeO.refl _)
  | (with_reducible exact LeO.none _)
  | (with_reducible refine LeO.ite ?_ ?_)
  | (with_reducible refine LeO.bind ?_ (fun _ => ?_))
  | exact LeO.none _
  | refine LeO.ite ?_ ?_
  | refine LeO.bind ?_ (fun _ => ?_)
theorem dag_dist.calls (k : Nat) (a0_0 : Int) (a0_1 : Int) (a0_2 : Int) (a0_3 : Int) (a0_4 : Int) (a0_5 : ByteArray) (a1_0 : Int) (a1_1 : Int) (a1_2 : Int) (a1_3 : Int) (a1_4 : Int) (a1_5 : ByteArray) (r : Int) (w : World) (h : dag_dist.f k a0_0 a0_1 a0_2 a0_3 a0_4 a0_5 a1_0 a1_1 a1_2 a1_3 a1_4 a1_5 = some r) :
    Calls Try.prog 91 #[.agg #[.int .i64 a0_0, .int .i64 a0_1, .int .i64 a0_2, .int .i64 a0_3, .int .i64 a0_4, .string a0_5], .agg #[.int .i64 a1_0, .int .i64 a1_1, .int .i64 a1_2, .int .i64 a1_3, .int .i64 a1_4, .string a1_5]] w fun e w' => e = .returned (.int .i64 r) ∧ Below w.heap.size w w' := by
 have hu24 := Try.underlying24
 have HB := aM_ (Below.refl w.heap.size w)
 have H : ((dag_reads.f k a0_0 a0_1 a0_2 a0_3 a0_4 a0_5 a1_0 a1_1 a1_2 a1_3 a1_4 a1_5).bind fun t161 => (if t161 = true then (dag_dist.j0 k 0 a0_0 a0_1 a0_2 a0_3 a0_4 a0_5 a1_0 a1_1 a1_2 a1_3 a1_4 a1_5) else (dag_dist.j0 k (-1) a0_0 a0_1 a0_2 a0_3 a0_4 a0_5 a1_0 a1_1 a1_2 a1_3 a1_4 a1_5))) = some r := h
 clear h
 replace H := oB_ H
 obtain ⟨t161, A3, H⟩ := H
 have HC4 := aM_ H
 clear H
 go_enter Try.func91, Try.ntmps91
 go_upto_if 8 with (first | ((with_reducible refine gate_dst (N := 2) rfl ?_); refine bX_ (N := 2) (cs := #[.int .i64 a0_0, .int .i64 a0_1, .int .i64 a0_2, .int .i64 a0_3, .int .i64 a0_4, .string a0_5]) (t := 24) ?_; intro gb159 hg w5 hbox hb; replace BK159 := aM_ (hbox); replace GW159 := aM_ (gE_ hg (bl_ HB)); replace GE159 := aM_ (gE_ hg (bl_ HB)); replace HB := aM_ (bT_ (bl_ HB) hb); clear hb hbox hg) | ((with_reducible refine gate_dst (N := 3) rfl ?_); refine bX_ (N := 3) (cs := #[.int .i64 a1_0, .int .i64 a1_1, .int .i64 a1_2, .int .i64 a1_3, .int .i64 a1_4, .string a1_5]) (t := 24) ?_; intro gb160 hg w6 hbox hb; replace BK160 := aM_ (hbox); replace GW160 := aM_ (gE_ hg (bs_ HB GE159)); replace GE160 := aM_ (gE_ hg (bs_ HB GE159)); replace HB := aM_ (bT_ (bs_ HB GE159) hb); replace NB159_160 := aM_ ((by rw [hg]; exact Nat.ne_of_lt (blk_lt (g := gb159) (o := .cells #[.int .i64 a0_0, .int .i64 a0_1, .int .i64 a0_2, .int .i64 a0_3, .int .i64 a0_4, .string a0_5] 24 (0, 0)) (rB_ BK159)) : gb159 ≠ gb160)); replace NB160_159 := aM_ ((by rw [hg]; exact Nat.ne_of_gt (blk_lt (g := gb159) (o := .cells #[.int .i64 a0_0, .int .i64 a0_1, .int .i64 a0_2, .int .i64 a0_3, .int .i64 a0_4, .string a0_5] 24 (0, 0)) (rB_ BK159)) : gb160 ≠ gb159)); replace BK159 := aM_ (kB_ (rB_ BK159) hb); clear hb hbox hg; have hnb7 := NB159_160.out; have hnc7 := NB160_159.out; obtain ⟨hcz8_0, hcz8_1, hcz8_2, hcz8_3, hcz8_4, hcz8_5⟩ := cl6_ BK159.out; obtain ⟨hfz8_0, hfz8_1, hfz8_2, hfz8_3, hfz8_4, hfz8_5⟩ := fz6_ BK159.out; obtain ⟨hcz9_0, hcz9_1, hcz9_2, hcz9_3, hcz9_4, hcz9_5⟩ := cl6_ BK160.out; obtain ⟨hfz9_0, hfz9_1, hfz9_2, hfz9_3, hfz9_4, hfz9_5⟩ := fz6_ BK160.out) | ((with_reducible refine gC_ (f := 103) rfl ?_); refine gL_ (some 8) Try.func103 #[.agg #[.int .i64 a0_0, .int .i64 a0_1, .int .i64 a0_2, .int .i64 a0_3, .int .i64 a0_4, .string a0_5], .agg #[.int .i64 a1_0, .int .i64 a1_1, .int .i64 a1_2, .int .i64 a1_3, .int .i64 a1_4, .string a1_5]] rfl ?_; (with_reducible refine (dag_reads.calls k a0_0 a0_1 a0_2 a0_3 a0_4 a0_5 a1_0 a1_1 a1_2 a1_3 a1_4 a1_5 t161 _ A3.out).mono ?_); rintro e w10 ⟨rfl, hb⟩; refine ⟨_, rfl, ?_⟩; replace BK159 := aM_ (kB_ (rB_ BK159) hb); replace BK160 := aM_ (kB_ (rB_ BK160) hb); replace HB := aM_ (bT_ (bt_ HB GE159 GE160) hb)))
 (try simp only [Act.put, List.setIfInBounds_toArray, List.set_cons_zero, List.set_cons_succ])
 go_cut [5] (fun v5 wc => ∃ (kq : Nat) (x5_3 : Int), v5 = .int .i64 x5_3 ∧ As_ (dag_dist.j0 kq x5_3 a0_0 a0_1 a0_2 a0_3 a0_4 a0_5 a1_0 a1_1 a1_2 a1_3 a1_4 a1_5 = some r) ∧ As_ (kq ≤ k) ∧ As_ (wc.heap[gb159]? = some (.cells #[.int .i64 a0_0, .int .i64 a0_1, .int .i64 a0_2, .int .i64 a0_3, .int .i64 a0_4, .string a0_5] 24 (0, 0))) ∧ As_ (wc.heap[gb160]? = some (.cells #[.int .i64 a1_0, .int .i64 a1_1, .int .i64 a1_2, .int .i64 a1_3, .int .i64 a1_4, .string a1_5] 24 (0, 0))) ∧ As_ (Below w.heap.size w wc))
 case first =>
  have H := HC4.out
  clear HC4
  by_cases c11 : t161 = true
  ·subst c11
   rw [if_pos rfl] at H
   replace H := aM_ H
   go_wp2
   go_meet
   case rel => exact ⟨_, (0), eQ_, H, ⟨by first | omega | exact Nat.le_refl _⟩, ⟨rB_ BK159⟩, ⟨rB_ BK160⟩, ⟨bt_ HB GE159 GE160⟩⟩
  replace c11 := eF_ c11
  subst c11
  rw [if_neg Bool.false_ne_true] at H
  replace H := aM_ H
  go_wp2
  go_meet
  case rel => exact ⟨_, ((-1)), eQ_, H, ⟨by first | omega | exact Nat.le_refl _⟩, ⟨rB_ BK159⟩, ⟨rB_ BK160⟩, ⟨bt_ HB GE159 GE160⟩⟩
 case rest =>
  clear HC4
  obtain ⟨kq, x5_3, rfl, HA, HJ3, BK159, BK160, HB⟩ := hcut
  cases kq with
  | zero => exact absurd HA.out (by simp [dag_dist.j0])
  | succ kj3 =>
   have H := HA.out
   clear HA
   simp only [dag_dist.j0] at H
   have HC12 := aM_ H
   clear H
   go_upto_region 4 with (fail)
   go_cut [16] (fun v16 wc => ∃ (kq : Nat) (x16_11 : Bool), v16 = .bool x16_11 ∧ As_ (dag_dist.j1 kq x5_3 x16_11 a0_0 a0_1 a0_2 a0_3 a0_4 a0_5 a1_0 a1_1 a1_2 a1_3 a1_4 a1_5 = some r) ∧ As_ (kq ≤ kj3) ∧ As_ (wc.heap[gb159]? = some (.cells #[.int .i64 a0_0, .int .i64 a0_1, .int .i64 a0_2, .int .i64 a0_3, .int .i64 a0_4, .string a0_5] 24 (0, 0))) ∧ As_ (wc.heap[gb160]? = some (.cells #[.int .i64 a1_0, .int .i64 a1_1, .int .i64 a1_2, .int .i64 a1_3, .int .i64 a1_4, .string a1_5] 24 (0, 0))) ∧ As_ (Below w.heap.size w wc))
   case first =>
    have H := HC12.out
    clear HC12
    replace H := oB_ H
    obtain ⟨t162, A13, H⟩ := H
    by_cases c14 : t162 = true
    ·subst c14
     rw [if_pos rfl] at H
     replace H := oB_ H
     obtain ⟨t163, A15, H⟩ := H
     replace H := aM_ H
     have hnb16 := NB159_160.out
     have hnc16 := NB160_159.out
     obtain ⟨hcz17_0, hcz17_1, hcz17_2, hcz17_3, hcz17_4, hcz17_5⟩ := cl6_ BK159.out
     obtain ⟨hfz17_0, hfz17_1, hfz17_2, hfz17_3, hfz17_4, hfz17_5⟩ := fz6_ BK159.out
     go_wp2_with (first | ((with_reducible refine gC_ (f := 94) rfl ?_); refine gL_ (some 11) Try.func94 #[.int .i64 a0_0] rfl ?_; (with_reducible refine (isa_Effect.calls kj3 a0_0 true _ A13.out).mono ?_); rintro e w' ⟨rfl, ⟨nd, rfl⟩⟩; refine ⟨_, rfl, ?_⟩; obtain ⟨hcz18_0, hcz18_1, hcz18_2, hcz18_3, hcz18_4, hcz18_5⟩ := cl6_ BK160.out; obtain ⟨hfz18_0, hfz18_1, hfz18_2, hfz18_3, hfz18_4, hfz18_5⟩ := fz6_ BK160.out) | (go_at_call 94; (with_reducible refine (isa_Effect.calls kj3 a1_0 t163 _ A15.out).mono ?_); rintro e w' ⟨rfl, ⟨nd, rfl⟩⟩))
     go_meet
     case rel => exact ⟨_, (t163), eQ_, H, ⟨by have := HJ3.out; first | omega | exact Nat.le_refl _⟩, ⟨rB_ BK159⟩, ⟨rB_ BK160⟩, ⟨bt_ HB GE159 GE160⟩⟩
    replace c14 := eF_ c14
    subst c14
    rw [if_neg Bool.false_ne_true] at H
    replace H := aM_ H
    have hnb19 := NB159_160.out
    have hnc19 := NB160_159.out
    obtain ⟨hcz20_0, hcz20_1, hcz20_2, hcz20_3, hcz20_4, hcz20_5⟩ := cl6_ BK159.out
    obtain ⟨hfz20_0, hfz20_1, hfz20_2, hfz20_3, hfz20_4, hfz20_5⟩ := fz6_ BK159.out
    go_wp2_with (first | ((with_reducible refine gC_ (f := 94) rfl ?_); refine gL_ (some 11) Try.func94 #[.int .i64 a0_0] rfl ?_; (with_reducible refine (isa_Effect.calls kj3 a0_0 false _ A13.out).mono ?_); rintro e w' ⟨rfl, ⟨nd, rfl⟩⟩; refine ⟨_, rfl, ?_⟩))
    go_meet
    case rel => exact ⟨_, (false), eQ_, H, ⟨by have := HJ3.out; first | omega | exact Nat.le_refl _⟩, ⟨rB_ BK159⟩, ⟨rB_ BK160⟩, ⟨bt_ HB GE159 GE160⟩⟩
   case rest =>
    clear HC12
    obtain ⟨kq, x16_11, rfl, HA, HJ11, BK159, BK160, HB⟩ := hcut
    cases kq with
    | zero => exact absurd HA.out (by simp [dag_dist.j1])
    | succ kj11 =>
     have H := HA.out
     clear HA
     simp only [dag_dist.j1] at H
     have HC21 := aM_ H
     clear H
     go_upto_if 16 with (fail)
     go_cut [5] (fun v5 wc => ∃ (kq : Nat) (x5_20 : Int), v5 = .int .i64 x5_20 ∧ As_ (dag_dist.j2 kq x5_20 a0_0 a0_1 a0_2 a0_3 a0_4 a0_5 a1_0 a1_1 a1_2 a1_3 a1_4 a1_5 = some r) ∧ As_ (kq ≤ kj11) ∧ As_ (wc.heap[gb159]? = some (.cells #[.int .i64 a0_0, .int .i64 a0_1, .int .i64 a0_2, .int .i64 a0_3, .int .i64 a0_4, .string a0_5] 24 (0, 0))) ∧ As_ (wc.heap[gb160]? = some (.cells #[.int .i64 a1_0, .int .i64 a1_1, .int .i64 a1_2, .int .i64 a1_3, .int .i64 a1_4, .string a1_5] 24 (0, 0))) ∧ As_ (Below w.heap.size w wc))
     case first =>
      have H := HC21.out
      clear HC21
      by_cases c22 : x16_11 = true
      ·subst c22
       rw [if_pos rfl] at H
       replace H := aM_ H
       go_wp2
       go_meet
       case rel => exact ⟨_, (1), eQ_, H, ⟨by have := HJ3.out; have := HJ11.out; first | omega | exact Nat.le_refl _⟩, ⟨rB_ BK159⟩, ⟨rB_ BK160⟩, ⟨bt_ HB GE159 GE160⟩⟩
      replace c22 := eF_ c22
      subst c22
      rw [if_neg Bool.false_ne_true] at H
      replace H := aM_ H
      go_wp2
      go_meet
      case rel => exact ⟨_, (x5_3), eQ_, H, ⟨by have := HJ3.out; have := HJ11.out; first | omega | exact Nat.le_refl _⟩, ⟨rB_ BK159⟩, ⟨rB_ BK160⟩, ⟨bt_ HB GE159 GE160⟩⟩
     case rest =>
      clear HC21
      obtain ⟨kq, x5_20, rfl, HA, HJ20, BK159, BK160, HB⟩ := hcut
      cases kq with
      | zero => exact absurd HA.out (by simp [dag_dist.j2])
      | succ kj20 =>
       have H := HA.out
       clear HA
       simp only [dag_dist.j2] at H
       have HC23 := aM_ H
       clear H
       go_upto_region 6 with (fail)
       go_cut [31] (fun v31 wc => ∃ (kq : Nat) (x31_22 : Bool), v31 = .bool x31_22 ∧ As_ (dag_dist.j3 kq x5_20 x31_22 a0_0 a0_1 a0_2 a0_3 a0_4 a0_5 = some r) ∧ As_ (kq ≤ kj20) ∧ As_ (wc.heap[gb159]? = some (.cells #[.int .i64 a0_0, .int .i64 a0_1, .int .i64 a0_2, .int .i64 a0_3, .int .i64 a0_4, .string a0_5] 24 (0, 0))) ∧ As_ (wc.heap[gb160]? = some (.cells #[.int .i64 a1_0, .int .i64 a1_1, .int .i64 a1_2, .int .i64 a1_3, .int .i64 a1_4, .string a1_5] 24 (0, 0))) ∧ As_ (Below w.heap.size w wc))
       case first =>
        have H := HC23.out
        clear HC23
        replace H := oB_ H
        obtain ⟨t164, A24, H⟩ := H
        by_cases c25 : t164 = true
        ·subst c25
         rw [if_pos rfl] at H
         replace H := aM_ H
         have hnb26 := NB160_159.out
         have hnc26 := NB159_160.out
         obtain ⟨hcz27_0, hcz27_1, hcz27_2, hcz27_3, hcz27_4, hcz27_5⟩ := cl6_ BK160.out
         obtain ⟨hfz27_0, hfz27_1, hfz27_2, hfz27_3, hfz27_4, hfz27_5⟩ := fz6_ BK160.out
         obtain ⟨hcz28_0, hcz28_1, hcz28_2, hcz28_3, hcz28_4, hcz28_5⟩ := cl6_ BK159.out
         obtain ⟨hfz28_0, hfz28_1, hfz28_2, hfz28_3, hfz28_4, hfz28_5⟩ := fz6_ BK159.out
         go_wp2_with (first | ((with_reducible refine gC_ (f := 103) rfl ?_); refine gL_ (some 19) Try.func103 #[.agg #[.int .i64 a1_0, .int .i64 a1_1, .int .i64 a1_2, .int .i64 a1_3, .int .i64 a1_4, .string a1_5], .agg #[.int .i64 a0_0, .int .i64 a0_1, .int .i64 a0_2, .int .i64 a0_3, .int .i64 a0_4, .string a0_5]] rfl ?_; (with_reducible refine (dag_reads.calls kj20 a1_0 a1_1 a1_2 a1_3 a1_4 a1_5 a0_0 a0_1 a0_2 a0_3 a0_4 a0_5 true _ A24.out).mono ?_); rintro e w29 ⟨rfl, hb⟩; refine ⟨_, rfl, ?_⟩; replace BK159 := aM_ (kB_ (rB_ BK159) hb); replace BK160 := aM_ (kB_ (rB_ BK160) hb); replace HB := aM_ (bT_ (bt_ HB GE159 GE160) hb)))
         go_meet
         case rel => exact ⟨_, (true), eQ_, H, ⟨by have := HJ3.out; have := HJ11.out; have := HJ20.out; first | omega | exact Nat.le_refl _⟩, ⟨rB_ BK159⟩, ⟨rB_ BK160⟩, ⟨bt_ HB GE159 GE160⟩⟩
        replace c25 := eF_ c25
        subst c25
        rw [if_neg Bool.false_ne_true] at H
        replace H := oB_ H
        obtain ⟨t165, A30, H⟩ := H
        replace H := oB_ H
        obtain ⟨t166, A31, H⟩ := H
        by_cases c32 : t166 = true
        ·subst c32
         rw [if_pos rfl] at H
         replace H := oB_ H
         obtain ⟨t167, A33, H⟩ := H
         replace H := aM_ H
         have hnb34 := NB160_159.out
         have hnc34 := NB159_160.out
         obtain ⟨hcz35_0, hcz35_1, hcz35_2, hcz35_3, hcz35_4, hcz35_5⟩ := cl6_ BK160.out
         obtain ⟨hfz35_0, hfz35_1, hfz35_2, hfz35_3, hfz35_4, hfz35_5⟩ := fz6_ BK160.out
         obtain ⟨hcz36_0, hcz36_1, hcz36_2, hcz36_3, hcz36_4, hcz36_5⟩ := cl6_ BK159.out
         obtain ⟨hfz36_0, hfz36_1, hfz36_2, hfz36_3, hfz36_4, hfz36_5⟩ := fz6_ BK159.out
         go_wp2_with (first | ((with_reducible refine gC_ (f := 103) rfl ?_); refine gL_ (some 19) Try.func103 #[.agg #[.int .i64 a1_0, .int .i64 a1_1, .int .i64 a1_2, .int .i64 a1_3, .int .i64 a1_4, .string a1_5], .agg #[.int .i64 a0_0, .int .i64 a0_1, .int .i64 a0_2, .int .i64 a0_3, .int .i64 a0_4, .string a0_5]] rfl ?_; (with_reducible refine (dag_reads.calls kj20 a1_0 a1_1 a1_2 a1_3 a1_4 a1_5 a0_0 a0_1 a0_2 a0_3 a0_4 a0_5 false _ A24.out).mono ?_); rintro e w37 ⟨rfl, hb⟩; refine ⟨_, rfl, ?_⟩; replace BK159 := aM_ (kB_ (rB_ BK159) hb); replace BK160 := aM_ (kB_ (rB_ BK160) hb); replace HB := aM_ (bT_ (bt_ HB GE159 GE160) hb); obtain ⟨hcz38_0, hcz38_1, hcz38_2, hcz38_3, hcz38_4, hcz38_5⟩ := cl6_ BK160.out; obtain ⟨hfz38_0, hfz38_1, hfz38_2, hfz38_3, hfz38_4, hfz38_5⟩ := fz6_ BK160.out) | (go_at_call 97; (with_reducible refine (isa_Shape.calls kj20 a1_0 t165 _ A30.out).mono ?_); rintro e w' ⟨rfl, ⟨nd, rfl⟩⟩) | (go_at_call 99; (with_reducible refine (isa_HasD.calls t165 true _ A31.out).mono ?_); rintro e w' ⟨rfl, ⟨nd, rfl⟩⟩; obtain ⟨hcz39_0, hcz39_1, hcz39_2, hcz39_3, hcz39_4, hcz39_5⟩ := cl6_ BK159.out; obtain ⟨hfz39_0, hfz39_1, hfz39_2, hfz39_3, hfz39_4, hfz39_5⟩ := fz6_ BK159.out) | (go_at_call 115; (with_reducible refine (dag_writes.calls kj20 a0_0 a0_1 a0_2 a0_3 a0_4 a0_5 a1_1 t167 _ A33.out).mono ?_); rintro e w40 ⟨rfl, hb⟩; replace BK159 := aM_ (kB_ (rB_ BK159) hb); replace BK160 := aM_ (kB_ (rB_ BK160) hb); replace HB := aM_ (bT_ (bt_ HB GE159 GE160) hb)))
         go_meet
         case rel => exact ⟨_, (t167), eQ_, H, ⟨by have := HJ3.out; have := HJ11.out; have := HJ20.out; first | omega | exact Nat.le_refl _⟩, ⟨rB_ BK159⟩, ⟨rB_ BK160⟩, ⟨bt_ HB GE159 GE160⟩⟩
        replace c32 := eF_ c32
        subst c32
        rw [if_neg Bool.false_ne_true] at H
        replace H := aM_ H
        have hnb41 := NB160_159.out
        have hnc41 := NB159_160.out
        obtain ⟨hcz42_0, hcz42_1, hcz42_2, hcz42_3, hcz42_4, hcz42_5⟩ := cl6_ BK160.out
        obtain ⟨hfz42_0, hfz42_1, hfz42_2, hfz42_3, hfz42_4, hfz42_5⟩ := fz6_ BK160.out
        obtain ⟨hcz43_0, hcz43_1, hcz43_2, hcz43_3, hcz43_4, hcz43_5⟩ := cl6_ BK159.out
        obtain ⟨hfz43_0, hfz43_1, hfz43_2, hfz43_3, hfz43_4, hfz43_5⟩ := fz6_ BK159.out
        go_wp2_with (first | ((with_reducible refine gC_ (f := 103) rfl ?_); refine gL_ (some 19) Try.func103 #[.agg #[.int .i64 a1_0, .int .i64 a1_1, .int .i64 a1_2, .int .i64 a1_3, .int .i64 a1_4, .string a1_5], .agg #[.int .i64 a0_0, .int .i64 a0_1, .int .i64 a0_2, .int .i64 a0_3, .int .i64 a0_4, .string a0_5]] rfl ?_; (with_reducible refine (dag_reads.calls kj20 a1_0 a1_1 a1_2 a1_3 a1_4 a1_5 a0_0 a0_1 a0_2 a0_3 a0_4 a0_5 false _ A24.out).mono ?_); rintro e w44 ⟨rfl, hb⟩; refine ⟨_, rfl, ?_⟩; replace BK159 := aM_ (kB_ (rB_ BK159) hb); replace BK160 := aM_ (kB_ (rB_ BK160) hb); replace HB := aM_ (bT_ (bt_ HB GE159 GE160) hb); obtain ⟨hcz45_0, hcz45_1, hcz45_2, hcz45_3, hcz45_4, hcz45_5⟩ := cl6_ BK160.out; obtain ⟨hfz45_0, hfz45_1, hfz45_2, hfz45_3, hfz45_4, hfz45_5⟩ := fz6_ BK160.out) | (go_at_call 97; (with_reducible refine (isa_Shape.calls kj20 a1_0 t165 _ A30.out).mono ?_); rintro e w' ⟨rfl, ⟨nd, rfl⟩⟩) | (go_at_call 99; (with_reducible refine (isa_HasD.calls t165 false _ A31.out).mono ?_); rintro e w' ⟨rfl, ⟨nd, rfl⟩⟩))
        go_meet
        case rel => exact ⟨_, (false), eQ_, H, ⟨by have := HJ3.out; have := HJ11.out; have := HJ20.out; first | omega | exact Nat.le_refl _⟩, ⟨rB_ BK159⟩, ⟨rB_ BK160⟩, ⟨bt_ HB GE159 GE160⟩⟩
       case rest =>
        clear HC23
        obtain ⟨kq, x31_22, rfl, HA, HJ22, BK159, BK160, HB⟩ := hcut
        cases kq with
        | zero => exact absurd HA.out (by simp [dag_dist.j3])
        | succ kj22 =>
         have H := HA.out
         clear HA
         simp only [dag_dist.j3] at H
         by_cases c46 : x31_22 = true
         ·subst c46
          rw [if_pos rfl] at H
          replace H := oB_ H
          obtain ⟨t168, A47, H⟩ := H
          obtain ⟨ji48, hji48⟩ : ∃ j_ : Int, (mx x5_20 t168) = j_ := ⟨_, rfl⟩
          replace H : (some ji48) = some r := by first | (rw [hji48] at H; exact H) | (simp only [hji48] at H ⊢; exact H)
          (try rw [hji48] at A47)
          have hji48_ : (if x5_20 < t168 then t168 else x5_20) = ji48 := hji48
          obtain rfl := oI_ H
          have hnb49 := NB159_160.out
          have hnc49 := NB160_159.out
          obtain ⟨hcz50_0, hcz50_1, hcz50_2, hcz50_3, hcz50_4, hcz50_5⟩ := cl6_ BK159.out
          obtain ⟨hfz50_0, hfz50_1, hfz50_2, hfz50_3, hfz50_4, hfz50_5⟩ := fz6_ BK159.out
          go_wp2_with (first | ((with_reducible refine gC_ (f := 92) rfl ?_); refine gL_ (some 35) Try.func92 #[.int .i64 a0_0] rfl ?_; (with_reducible refine (isa_Late.calls kj22 a0_0 t168 _ A47.out).mono ?_); rintro e w' ⟨rfl, ⟨nd, rfl⟩⟩; refine ⟨_, rfl, ?_⟩))
          go_ret
          exact ⟨by first | rfl | (simp [eN_, eS_] <;> rfl) | (simp only [← hji48]; first | rfl | (simp [eN_, eS_] <;> rfl)) | (simp [*, eN_, eS_] <;> rfl), bt_ HB GE159 GE160⟩
         replace c46 := eF_ c46
         subst c46
         rw [if_neg Bool.false_ne_true] at H
         obtain rfl := oI_ H
         go_wp2
         go_ret
         exact ⟨eR_, bt_ HB GE159 GE160⟩
end
end Go.Proofs.Ytibfkkjkahpobaa.PDag
