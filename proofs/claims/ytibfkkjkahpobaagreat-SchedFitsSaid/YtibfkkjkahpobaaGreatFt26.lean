import Derived.Test.YtibfkkjkahpobaaGreatFt25
import Derived.Test.YtibfkkjkahpobaaGreatFt15
set_option linter.unusedVariables false
set_option linter.unusedSimpArgs false
set_option maxHeartbeats 8000000
set_option maxRecDepth 100000
open Go.RowKit Go.Proofs.YtibfkkjkahpobaaGreatW.PrintWords Go.Proofs.YtibfkkjkahpobaaGreatW.PrintLast Go.Proofs.YtibfkkjkahpobaaGreatW.PrintMore
namespace Go.Proofs.YtibfkkjkahpobaaGreat.PDag
section
open Go.RowKit Go.Shelf Go.Proofs.YtibfkkjkahpobaaGreatW.PrintWords Go.Proofs.YtibfkkjkahpobaaGreatW.PrintLast Go.Proofs.YtibfkkjkahpobaaGreatW.PrintMore
attribute [local go_sem] Oper.semAt_some
def dag_Urge.step (h : List Int) (x : S100) : Option (List Int) :=
  if 0 ≤ x.f0 ∧ x.f0 < h.length ∧ 0 ≤ x.f1 ∧ x.f1 < h.length then some (h.set x.f0.toNat (min (rd h x.f0) (rd h x.f1))) else none
def dag_Urge.init (k n : Nat) : Nat → List S24 → Option (List Int)
  | _, [] => some []
  | i, x :: xs => (isa_Effect.f k x.f0).bind fun v => (dag_Urge.init k n (i + 1) xs).bind fun r => some ((if v = true then (i : Int) else (n : Int)) :: r)
def dag_Urge.f (k : Nat) (l : List S24) (es : List S100) : Option (List Int) := if l.length ≤ 35184372088832 then (dag_Urge.init k l.length 0 l).bind fun h => es.reverse.foldlM dag_Urge.step h else none
theorem dag_Urge.init_at (k n : Nat) : ∀ (i : Nat) (l : List S24) (h0 : List Int), dag_Urge.init k n i l = some h0 → h0.length = l.length ∧ ∀ j : Nat, j < l.length → ∃ v, isa_Effect.f k (J24 l j).f0 = some v ∧ rd h0 j = if v = true then ((i + j : Nat) : Int) else (n : Int)
  | i, [], h0, h => by
    simp only [dag_Urge.init, Option.some.injEq] at h; subst h
    exact ⟨rfl, fun j hj => absurd hj (Nat.not_lt_zero _)⟩
  | i, x :: xs, h0, h => by
    simp only [dag_Urge.init] at h; obtain ⟨v, hv, h⟩ := Option.bind_eq_some_iff.mp h; obtain ⟨r, hr, h⟩ := Option.bind_eq_some_iff.mp h; obtain rfl := Option.some.inj h; obtain ⟨h1, h2⟩ := dag_Urge.init_at k n (i + 1) xs r hr; refine ⟨by simp [h1], fun j hj => ?_⟩
    cases j with
    | zero => exact ⟨v, by simpa [J24] using hv, by simp [rd]⟩
    | succ j =>
      obtain ⟨u, h3, h4⟩ := h2 j (by simpa using hj); refine ⟨u, by simpa [J24] using h3, ?_⟩; rw [show i + (j + 1) = i + 1 + j by omega, ← h4]; simp [rd]
theorem dag_Urge.range : ∀ (es : List S100) (h r : List Int), es.foldlM dag_Urge.step h = some r → (∀ x ∈ es, 0 ≤ x.f0 ∧ x.f0 < h.length ∧ 0 ≤ x.f1 ∧ x.f1 < h.length)
  | [], h, r, _ => by simp
  | x :: es, h, r, hf => by
    rw [List.foldlM_cons] at hf; obtain ⟨h1, hs, hf⟩ := Option.bind_eq_some_iff.mp hf; unfold dag_Urge.step at hs; split at hs
    · rename_i hc
      have h2 := dag_Urge.range es h1 r hf; have hl : h1.length = h.length := by rw [← Option.some.inj hs]; simp
      rw [hl] at h2; intro y hy; rcases List.mem_cons.1 hy with rfl | hy
      · exact hc
      · exact h2 y hy
    · exact absurd hs (by simp)
theorem dag_Urge.calls (k : Nat) (A0 : Option Addr) (c0 : Nat) (l0 : List S24) (A1 : Option Addr) (c1 : Nat) (l1 : List S100) (r : List Int) (w : World) (hr0 : Kd.C k24 w A0 l0.length l0) (hc0 : l0.length ≤ c0) (hr1 : Kd.C k100 w A1 l1.length l1) (hc1 : l1.length ≤ c1) (h : dag_Urge.f k l0 l1 = some r) :
    Calls Tryz.prog 63 #[.slice A0 l0.length c0, .slice A1 l1.length c1] w fun e w' => ∃ v0_ : Value, e = .returned (v0_) ∧ Kd.R (Kd.int .i64) 3 w' w.heap.size (fun _ => True) v0_ r ∧ Below w.heap.size w w' := by
  have hu24 := Tryz.underlying24; have hu100 := Tryz.underlying100; unfold dag_Urge.f at h
  by_cases hlen : l0.length ≤ 35184372088832
  · rw [if_pos hlen] at h; obtain ⟨h0, hi, hf⟩ := Option.bind_eq_some_iff.mp h; have Hi := aM_ hi; have Hf := aM_ hf; clear h hi hf; refine callsIn_wide.1 (callsIn_of_wp_marks (n := 5) Tryz.func63 rfl trivial ?_ rfl); refine wpIn_wide.2 ?_; simp only [Tryz.ntmps63, List.size_toArray, List.length_cons, List.length_nil, Nat.reduceAdd, Nat.reduceSub, Array.replicate_succ, Array.replicate_zero, List.push_toArray, List.append_toArray, List.nil_append, List.cons_append]; have HM := aM_ hlen; have HB := aM_ (Below.refl w.heap.size w)
    go_wp2_with (first | ((with_reducible refine gate_dst (N := 12) rfl ?_); refine Kd.R_make (Kd.int .i64) _ 3 rfl (N := 12) rfl 25 _ _ rfl (l0.length : Int) rfl rfl Tryz.underlying25 (.int .i64 0) 8 info3 rfl (by decide) (by omega) 0 (ok := fun k => w.heap.size ≤ k) (okp := fun k => w.heap.size ≤ k) rfl (fun _ hk => hk) (Nat.le_refl _) (Int.natCast_nonneg _) (by have := HM.out; omega) (Below.refl _ _) (Nat.le_refl _) ?_; intro v12 w5 ho6 hb hg_ hnew_; obtain ⟨g4, cap4, e4, hg4, hRow⟩ := Row.shape ho6 hnew_; subst e4; simp only [List.length_replicate, Int.toNat_natCast] at hRow ⊢; have HO := aM_ hRow; have HB1 := aM_ hb; have HN := aM_ hg4; clear ho6 hb hg_ hnew_ hg4 hRow) | ((with_reducible refine gate_dst (N := 5) rfl ?_); refine bX_ (N := 5) (cs := #[.slice none 0 0]) (t := 25) ?_; intro g5 hg w6 hbox hb; have hcb := (bC_ hbox 0).trans rfl; have hfb := bZ_ hbox 0; have BX := aM_ hbox; have HG := aM_ hg; have HB2 := aM_ hb; clear hbox hg hb))
    obtain ⟨hl0, hlate⟩ := dag_Urge.init_at k l0.length 0 l0 h0 Hi.out; have hlt4 : g4 < w5.heap.size := HO.out.lt; have hne45 : g4 ≠ g5 := by have := HG.out; omega
    go_loopw [15] (fun i wr => ∃ j : Nat, j ≤ l0.length ∧ i = .int .i64 j ∧ As_ (Row w.heap.size wr g4 cap4 l0.length (h0.take j ++ List.replicate (l0.length - j) 0)) ∧ As_ (wr.heap[g5]? = some (.cells #[.slice (some ⟨g4, 0, none⟩) l0.length cap4] 25 (0, 0))) ∧ As_ (Below w.heap.size w wr)) (fun i _ => l0.length - (intOf i).toNat)
    case atStart =>
      refine ⟨0, Nat.zero_le _, rfl, ⟨?_⟩, ⟨?_⟩, ⟨?_⟩⟩
      · simp only [List.take_zero, List.nil_append, Nat.sub_zero]; exact HO.out.step (by rw [Below.heap_setCell _ _ _ _ hne45]; exact HB2.out.block g4 hlt4)
      · exact blk_put BX.out 0 _ rfl
      · exact (HB1.out.trans (HB2.out.mono HB1.out.size)).setCell (p := ⟨g5, 0, none⟩) (by show w.heap.size ≤ g5; have := HG.out; have := HB1.out.size; omega) _
    case round =>
      clear hcb hfb HO BX; obtain ⟨j, hj, rfl, HO, BX, HB⟩ := hrel
      by_cases hlt : j < l0.length
      · have hla := aM_ (hlate j hlt); clear hlate; obtain ⟨ad, e1, hx0, hx1, hx2, hx3, hx4, hx5⟩ := at_T24 hr0 (j : Int) (Int.natCast_nonneg _) (by omega); subst e1; rw [Int.toNat_natCast] at hx0 hx1 hx2 hx3 hx4 hx5; replace hx0 := hC_ HB hx0; replace hx1 := hC_ HB hx1; replace hx2 := hC_ HB hx2; replace hx3 := hC_ HB hx3; replace hx4 := hC_ HB hx4; replace hx5 := hC_ HB hx5; have p1 : ((0 : Int) ≤ (j : Int)) = True := eq_true (Int.natCast_nonneg _); have q1 : ((j : Int) < (l0.length : Int)) = True := eq_true (by omega); have q2 : (j < l0.length) = True := eq_true hlt; have bx : (wr.alloc (.cells #[.int .i64 0, .int .i64 0, .int .i64 0, .int .i64 0, .int .i64 0, .string (⟨#[]⟩ : ByteArray)] 24)).heap[wr.heap.size]? = some (.cells #[.int .i64 0, .int .i64 0, .int .i64 0, .int .i64 0, .int .i64 0, .string (⟨#[]⟩ : ByteArray)] 24 (0, 0)) := blk_new wr _; have z0 := (bC_ bx 0).trans rfl; have z1 := (bC_ bx 1).trans rfl; have z2 := (bC_ bx 2).trans rfl; have z3 := (bC_ bx 3).trans rfl; have z4 := (bC_ bx 4).trans rfl; have z5 := (bC_ bx 5).trans rfl; have y0 := bZ_ bx 0; have y1 := bZ_ bx 1; have y2 := bZ_ bx 2; have y3 := bZ_ bx 3; have y4 := bZ_ bx 4; have y5 := bZ_ bx 5; clear bx; have n5 : g5 ≠ wr.heap.size := by have := blk_lt BX.out; omega
        have n5' : wr.heap.size ≠ g5 := fun e => n5 e.symm; have n4 : g4 ≠ wr.heap.size := by have := HO.out.lt; omega
        have n4' : wr.heap.size ≠ g4 := fun e => n4 e.symm; have bx := blk_new wr (.cells #[.int .i64 (J24 l0 (j : Int)).f0, .int .i64 (J24 l0 (j : Int)).f1, .int .i64 (J24 l0 (j : Int)).f2, .int .i64 (J24 l0 (j : Int)).f3, .int .i64 (J24 l0 (j : Int)).f4, .string (J24 l0 (j : Int)).f5] 24 (0, 0)); have HO7 := aM_ (HO.out.step (Below.heap_alloc wr (.cells #[.int .i64 (J24 l0 (j : Int)).f0, .int .i64 (J24 l0 (j : Int)).f1, .int .i64 (J24 l0 (j : Int)).f2, .int .i64 (J24 l0 (j : Int)).f3, .int .i64 (J24 l0 (j : Int)).f4, .string (J24 l0 (j : Int)).f5] 24 (0, 0)) g4 HO.out.lt)); have BX7 := aM_ (kA_ BX.out (.cells #[.int .i64 (J24 l0 (j : Int)).f0, .int .i64 (J24 l0 (j : Int)).f1, .int .i64 (J24 l0 (j : Int)).f2, .int .i64 (J24 l0 (j : Int)).f3, .int .i64 (J24 l0 (j : Int)).f4, .string (J24 l0 (j : Int)).f5] 24 (0, 0))); have HB7 := aM_ (HB.out.alloc HB.out.size (.cells #[.int .i64 (J24 l0 (j : Int)).f0, .int .i64 (J24 l0 (j : Int)).f1, .int .i64 (J24 l0 (j : Int)).f2, .int .i64 (J24 l0 (j : Int)).f3, .int .i64 (J24 l0 (j : Int)).f4, .string (J24 l0 (j : Int)).f5] 24 (0, 0))); have x0 := (bC_ bx 0).trans rfl; have b5 := (bC_ BX7.out 0).trans rfl; have hR := HO7.out.cell (j : Int) (Int.natCast_nonneg _) (by omega); rw [Int.toNat_natCast] at hR; obtain ⟨b4, b4'⟩ := hR; clear bx; obtain ⟨t, ht, hrd⟩ := hla.out; have ht := aM_ ht; have hrd := aM_ hrd; clear hla
        cases t
        all_goals go_wp2_with (first | (go_at_call 98; (with_reducible refine (isa_Effect.calls k (J24 l0 (j : Int)).f0 _ _ ht.out).mono ?_); rintro e w' ⟨rfl, ⟨nd, rfl⟩⟩))
        all_goals go_roundw
        all_goals first
          | (refine ⟨j + 1, by omega, by simp, ⟨?_⟩, ⟨?_⟩, ⟨?_⟩⟩
             · have e_ := hrd.out; simp only [Bool.false_eq_true, if_false, if_true, Nat.zero_add] at e_; rw [← dag_High.set_at h0 l0.length j hl0 hlt, e_]
               first
                 | exact Row.step (Row.putN HO7.out j _) rfl
                 | exact Row.putN (HO7.out.step rfl) j _
                 | (rw [← List.set_set]; exact Row.putN (Row.step (Row.putN HO7.out j _) rfl) j _)
             · first
                 | (show ((wr.alloc (.cells #[.int .i64 (J24 l0 (j : Int)).f0, .int .i64 (J24 l0 (j : Int)).f1, .int .i64 (J24 l0 (j : Int)).f2, .int .i64 (J24 l0 (j : Int)).f3, .int .i64 (J24 l0 (j : Int)).f4, .string (J24 l0 (j : Int)).f5] 24 (0, 0))).setCell ⟨g4, j, none⟩ _).heap[g5]? = _; rw [Below.heap_setCell _ _ _ _ hne45.symm]; exact BX7.out)
                 | (rw [Below.heap_setCell _ _ _ _ hne45.symm]; show ((wr.alloc (.cells #[.int .i64 (J24 l0 (j : Int)).f0, .int .i64 (J24 l0 (j : Int)).f1, .int .i64 (J24 l0 (j : Int)).f2, .int .i64 (J24 l0 (j : Int)).f3, .int .i64 (J24 l0 (j : Int)).f4, .string (J24 l0 (j : Int)).f5] 24 (0, 0))).setCell ⟨g4, j, none⟩ _).heap[g5]? = _; rw [Below.heap_setCell _ _ _ _ hne45.symm]; exact BX7.out)
                 | (rw [Below.heap_setCell _ _ _ _ hne45.symm]; exact BX7.out)
             · repeat (first | exact HB7.out | apply bN_ | apply b1_ | refine Below.setCell (p := ⟨g4, j, none⟩) ?_ HN.out _))
          | (simp [intOf]; omega)
          | trace_state
      · obtain rfl : j = l0.length := by omega
        have p1 : ((l0.length : Int) < (l0.length : Int)) = False := eq_false (by omega); simp only [Nat.sub_self, List.replicate_zero, List.append_nil, List.take_of_length_le (Nat.le_of_eq hl0)] at HO
        go_wp2_with (go_at_call 99; refine (callsIn_wide.1 (back_in Fence.wide 1 trivial rfl _ _ _ _)).mono ?_; rintro e w' ⟨rfl, rfl⟩)
        have hbe := blk_new wr (.cells #[.slice A1 l1.length c1] 88 (0, 0)); have HO7 := aM_ (HO.out.step (Below.heap_alloc wr (.cells #[.slice A1 l1.length c1] 88 (0, 0)) g4 HO.out.lt)); have BX7 := aM_ (kA_ BX.out (.cells #[.slice A1 l1.length c1] 88 (0, 0))); have HB7 := aM_ (HB.out.alloc HB.out.size (.cells #[.slice A1 l1.length c1] 88 (0, 0))); have hlt5 := blk_lt BX.out; have hsz : (wr.alloc (.cells #[.slice A1 l1.length c1] 88 (0, 0))).heap.size = wr.heap.size + 1 := by simp
        have hwr := HB.out.size; obtain ⟨Be, hBe⟩ : ∃ Be, Be = wr.heap.size := ⟨_, rfl⟩
        rw [← hBe] at hbe hsz hlt5 ⊢; generalize hW7 : wr.alloc (.cells #[.slice A1 l1.length c1] 88 (0, 0)) = W7 at hbe HO7 BX7 HB7 hsz ⊢; have hrg := dag_Urge.range _ _ _ Hf.out
        refine wpIn_wide.1 (wpIn_rangeFunc_ownH (F := Fence.wide) (n := 5) rfl (by omega) (gf := 106) (lb := #[.pointer (some ⟨Be, 0, none⟩)]) rfl trivial (enters_of Tryz.func106 (by kernel_rfl) rfl)
          (back_stops Fence.wide (5 - 1) trivial rfl (by omega) Be A1 c1 l1 w W7 hr1 HB7.out hbe) (fun h k => KpB.t h k) (KpB.b HB7.out.size (by omega)) (Below.refl _ _) (fun _ => rfl)
          (fun pre W => (∃ hs, (pre.map (fun j : Fin l1.length => comes l1 j.1)).foldlM dag_Urge.step h0 = some hs ∧ Row w.heap.size W g4 cap4 l0.length hs) ∧ W.heap[g5]? = some (.cells #[.slice (some ⟨g4, 0, none⟩) l0.length cap4] 25 (0, 0)) ∧ W.heap[Be]? = some (.cells #[.slice A1 l1.length c1] 88 (0, 0)) ∧ Below w.heap.size w W)
          (fun _ _ _ => False)
          ?hI (fun _ _ _ _ _ hs _ _ => hs) ⟨⟨h0, rfl, HO7.out⟩, BX7.out, hbe, HB7.out⟩
          (fun x a' W => ∃ Bx, Be < Bx ∧ W.heap[Bx]? = some (.cells #[.int .i64 (comes l1 x.1).f0, .int .i64 (comes l1 x.1).f1, .int .i64 (comes l1 x.1).f2] 100 (0, 0)) ∧
            a' = { tmps := (Value.slice A0 l0.length c0 :: Value.slice A1 l1.length c1 :: undef :: undef :: Value.slice none 0 0 :: Value.pointer (some ⟨g5, 0, none⟩) :: u6 :: u7 :: undef :: Value.pointer (some ⟨Bx, 0, none⟩) :: Value.slice A0 l0.length c0 :: Value.int .i64 l0.length :: Value.slice (some ⟨g4, 0, none⟩) l0.length cap4 :: Value.slice A0 l0.length c0 :: Value.int .i64 l0.length :: Value.int .i64 l0.length :: Value.bool false :: u17 :: u18 :: u19 :: u20 :: u21 :: u22 :: u23 :: u24 :: u25 :: u26 :: u27 :: u28 :: u29 :: u30 :: u31 :: u32 :: Value.slice A1 l1.length c1 :: Value.func (.func 106) #[] #[.pointer (some ⟨Be, 0, none⟩)] :: Value.int .i64 ((l1.length : Int) - 1 - (x.1 : Int)) :: Value.agg #[.int .i64 (comes l1 x.1).f0, .int .i64 (comes l1 x.1).f1, .int .i64 (comes l1 x.1).f2] :: undef :: undef :: undef :: undef :: undef :: undef :: undef :: undef :: undef :: undef :: undef :: undef :: undef :: undef :: undef :: undef :: []).toArray, defers := [] })
          ?hAx ?assign ?body ?done ?stop)
        case hI =>
          rintro pre X Y row ⟨⟨hs, e1, hR⟩, h5, he, hB⟩ hg hr; obtain ⟨cs4, hc4⟩ := hR.cells; exact ⟨⟨hs, e1, hR.step (own_blk hc4 hg hr)⟩, (own_blk h5 hg hr).trans h5, (own_blk he hg hr).trans he, hB.grown hg hB.size (fun k e => by have := (hr k e).1; omega)⟩
        case hAx =>
          rintro x a' _ X Y row ⟨Bx, h1, h2, h3⟩ hg hr; exact ⟨Bx, h1, (own_blk h2 hg hr).trans h2, h3⟩
        case assign =>
          rintro l pre x W K ⟨⟨hs, e1, hR⟩, h5, he, hB⟩ hK; have bx : (W.alloc (.cells #[.int .i64 0, .int .i64 0, .int .i64 0] 100)).heap[W.heap.size]? = some (.cells #[.int .i64 0, .int .i64 0, .int .i64 0] 100 (0, 0)) := blk_new W _; have z0 := (bC_ bx 0).trans rfl; have z1 := (bC_ bx 1).trans rfl; have z2 := (bC_ bx 2).trans rfl; have y0 := bZ_ bx 0; have y1 := bZ_ bx 1; have y2 := bZ_ bx 2; clear bx
          gi_wp2
          exact hK _ _ ((KeepsOthers.alloc _ _).from _) ⟨(Below.refl _ W).alloc hB.size _, Below.heap_alloc W _ Be (blk_lt he)⟩ ⟨⟨hs, e1, hR.step (Below.heap_alloc W _ g4 hR.lt)⟩, kA_ h5 _, kA_ he _, hB.alloc hB.size _⟩ ⟨W.heap.size, blk_lt he, blk_new W _, by subst hBe; rfl⟩
        case body =>
          rintro l pre x a' W hl ⟨r', hr'⟩ ⟨⟨hs, e1, hR⟩, h5, he, hB⟩ ⟨Bx, hBx, hbx, rfl⟩ hlen'; obtain ⟨r0, r1, r2, r3⟩ := hrg (comes l1 x.1) (comes_mem l1 x.1 x.2); rw [hl0] at r1 r3; have x0 := (bC_ hbx 0).trans rfl; have x1 := (bC_ hbx 1).trans rfl; have x2 := (bC_ hbx 2).trans rfl; have b5 := (bC_ h5 0).trans rfl; obtain ⟨c0', c0f⟩ := hR.cell (comes l1 x.1).f0 r0 r1; obtain ⟨c1', c1f⟩ := hR.cell (comes l1 x.1).f1 r2 r3; have hput := aM_ (hR.put (comes l1 x.1).f0 (min (rd hs (comes l1 x.1).f0) (rd hs (comes l1 x.1).f1))); have hne : g4 ≠ Be := by have := hR.lt; have := blk_lt he; have := HO.out.lt; omega
          clear hr' hl; replace r0 := eq_true r0; replace r1 := eq_true r1; replace r2 := eq_true r2; replace r3 := eq_true r3; have hR' := aM_ hR; have h5' := aM_ h5; have he' := aM_ he; have hB' := aM_ hB; clear hR h5 he hB hbx
          gi_wp2
          refine startIn_ (n := 16) (S := fun w' => w'.cell? ⟨g5, 0, none⟩ = some (.slice (some ⟨g4, 0, none⟩) l0.length cap4) ∧ w'.cell? ⟨Bx, 0, none⟩ = some (.int .i64 (comes l1 x.1).f0) ∧ w'.cell? ⟨Bx, 1, none⟩ = some (.int .i64 (comes l1 x.1).f1) ∧ w'.cell? ⟨Bx, 2, none⟩ = some (.int .i64 (comes l1 x.1).f2) ∧ w'.cell? ⟨g4, (comes l1 x.1).f0.toNat, none⟩ = some (.int .i64 (rd hs (comes l1 x.1).f0)) ∧ w'.cell? ⟨g4, (comes l1 x.1).f1.toNat, none⟩ = some (.int .i64 (rd hs (comes l1 x.1).f1))) (ds := [15]) #[false, false, false, false, false, false, false, false, false, false, false, false, false, false, false, false] (by kernel_rfl) (by kernel_rfl) rfl rfl ⟨b5, x0, x1, x2, c0', c1'⟩ (fun hHeld => ?_); have f0' : W.drew.frozen? ⟨g4, (comes l1 x.1).f0.toNat, none⟩ = false := c0f; have hput' : As_ (Row w.heap.size (W.drew.setCell ⟨g4, (comes l1 x.1).f0.toNat, none⟩ (.int .i64 (min (rd hs (comes l1 x.1).f0) (rd hs (comes l1 x.1).f1)))) g4 cap4 l0.length _) := ⟨hput.out.step rfl⟩
          have hd0 : ∀ b : Nat, W.drew.heap[b]? = W.heap[b]? := fun _ => rfl; have hlow := aM_ (below_drew (Below.refl w.heap.size W)); have hkf := aM_ ((KeepsOthers.drew W).from W7.heap.size); have hc0 := c0'; clear c0f c1f hput; replace c0' : W.drew.cell? ⟨g4, (comes l1 x.1).f0.toNat, none⟩ = _ := hc0; clear hc0 x0 x1 x2 b5 c1'; generalize W.drew = w2 at c0' f0' hput' hd0 hlow hkf hHeld ⊢; refine take_ (i := 0) (N := (some 37)) (v := ?_) (a' := ?_) #[true, false, false, false, false, false, false, false, false, false, false, false, false, false, false, false] rfl rfl (by kernel_rfl) (fun _ _ _ h => h) (Or.inl ⟨by rfl, ?_⟩) hHeld ?_ ?_; rotate_left
          · rintro w' ⟨s0, s1, s2, s3, s4, s5⟩
            go_simp
            with_reducible rfl
          rotate_left
          · simp only [Act.put, List.setIfInBounds_toArray, List.set_cons_zero, List.set_cons_succ, i64_w, i32_w]; rfl
          refine pure_ (i := 1) (N := (some 38)) (v := ?_) (a' := ?_) #[true, true, false, false, false, false, false, false, false, false, false, false, false, false, false, false] rfl rfl (by kernel_rfl) (fun _ _ _ h => h) (Or.inl ⟨by rfl, ?_⟩) ?_ ?_; rotate_left
          · intro w'
            go_simp
            with_reducible rfl
          rotate_left
          · simp only [Act.put, List.setIfInBounds_toArray, List.set_cons_zero, List.set_cons_succ, i64_w, i32_w]; rfl
          refine take_ (i := 2) (N := (some 39)) (v := ?_) (a' := ?_) #[true, true, true, false, false, false, false, false, false, false, false, false, false, false, false, false] rfl rfl (by kernel_rfl) (fun _ _ _ h => h) (Or.inl ⟨by rfl, ?_⟩) hHeld ?_ ?_; rotate_left
          · rintro w' ⟨s0, s1, s2, s3, s4, s5⟩
            go_simp
            with_reducible rfl
          rotate_left
          · simp only [Act.put, List.setIfInBounds_toArray, List.set_cons_zero, List.set_cons_succ, i64_w, i32_w]; rfl
          refine take_ (i := 3) (N := (some 40)) (v := ?_) (a' := ?_) #[true, true, true, true, false, false, false, false, false, false, false, false, false, false, false, false] rfl rfl (by kernel_rfl) (fun _ _ _ h => h) (Or.inl ⟨by rfl, ?_⟩) hHeld ?_ ?_; rotate_left
          · rintro w' ⟨s0, s1, s2, s3, s4, s5⟩
            go_simp
            with_reducible rfl
          rotate_left
          · simp only [Act.put, List.setIfInBounds_toArray, List.set_cons_zero, List.set_cons_succ, i64_w, i32_w]; rfl
          refine pure_ (i := 4) (N := (some 41)) (v := ?_) (a' := ?_) #[true, true, true, true, true, false, false, false, false, false, false, false, false, false, false, false] rfl rfl (by kernel_rfl) (fun _ _ _ h => h) (Or.inl ⟨by rfl, ?_⟩) ?_ ?_; rotate_left
          · intro w'
            go_simp
            with_reducible rfl
          rotate_left
          · simp only [Act.put, List.setIfInBounds_toArray, List.set_cons_zero, List.set_cons_succ, i64_w, i32_w]; rfl
          refine take_ (i := 5) (N := (some 42)) (v := ?_) (a' := ?_) #[true, true, true, true, true, true, false, false, false, false, false, false, false, false, false, false] rfl rfl (by kernel_rfl) (fun _ _ _ h => h) (Or.inl ⟨by rfl, ?_⟩) hHeld ?_ ?_; rotate_left
          · rintro w' ⟨s0, s1, s2, s3, s4, s5⟩
            go_simp
            with_reducible rfl
          rotate_left
          · simp only [Act.put, List.setIfInBounds_toArray, List.set_cons_zero, List.set_cons_succ, i64_w, i32_w]; rfl
          refine pure_ (i := 6) (N := (some 43)) (v := ?_) (a' := ?_) #[true, true, true, true, true, true, true, false, false, false, false, false, false, false, false, false] rfl rfl (by kernel_rfl) (fun _ _ _ h => h) (Or.inl ⟨by rfl, ?_⟩) ?_ ?_; rotate_left
          · intro w'
            go_simp
            with_reducible rfl
          rotate_left
          · simp only [Act.put, List.setIfInBounds_toArray, List.set_cons_zero, List.set_cons_succ, i64_w, i32_w]; rfl
          refine take_ (i := 7) (N := (some 44)) (v := ?_) (a' := ?_) #[true, true, true, true, true, true, true, true, false, false, false, false, false, false, false, false] rfl rfl (by kernel_rfl) (fun _ _ _ h => h) (Or.inl ⟨by rfl, ?_⟩) hHeld ?_ ?_; rotate_left
          · rintro w' ⟨s0, s1, s2, s3, s4, s5⟩
            go_simp
            with_reducible rfl
          rotate_left
          · simp only [Act.put, List.setIfInBounds_toArray, List.set_cons_zero, List.set_cons_succ, i64_w, i32_w]; rfl
          refine take_ (i := 8) (N := (some 45)) (v := ?_) (a' := ?_) #[true, true, true, true, true, true, true, true, true, false, false, false, false, false, false, false] rfl rfl (by kernel_rfl) (fun _ _ _ h => h) (Or.inl ⟨by rfl, ?_⟩) hHeld ?_ ?_; rotate_left
          · rintro w' ⟨s0, s1, s2, s3, s4, s5⟩
            go_simp
            with_reducible rfl
          rotate_left
          · simp only [Act.put, List.setIfInBounds_toArray, List.set_cons_zero, List.set_cons_succ, i64_w, i32_w]; rfl
          refine pure_ (i := 9) (N := (some 46)) (v := ?_) (a' := ?_) #[true, true, true, true, true, true, true, true, true, true, false, false, false, false, false, false] rfl rfl (by kernel_rfl) (fun _ _ _ h => h) (Or.inl ⟨by rfl, ?_⟩) ?_ ?_; rotate_left
          · intro w'
            go_simp
            with_reducible rfl
          rotate_left
          · simp only [Act.put, List.setIfInBounds_toArray, List.set_cons_zero, List.set_cons_succ, i64_w, i32_w]; rfl
          refine take_ (i := 10) (N := (some 47)) (v := ?_) (a' := ?_) #[true, true, true, true, true, true, true, true, true, true, true, false, false, false, false, false] rfl rfl (by kernel_rfl) (fun _ _ _ h => h) (Or.inl ⟨by rfl, ?_⟩) hHeld ?_ ?_; rotate_left
          · rintro w' ⟨s0, s1, s2, s3, s4, s5⟩
            go_simp
            with_reducible rfl
          rotate_left
          · simp only [Act.put, List.setIfInBounds_toArray, List.set_cons_zero, List.set_cons_succ, i64_w, i32_w]; rfl
          refine pure_ (i := 11) (N := (some 48)) (v := ?_) (a' := ?_) #[true, true, true, true, true, true, true, true, true, true, true, true, false, false, false, false] rfl rfl (by kernel_rfl) (fun _ _ _ h => h) (Or.inl ⟨by rfl, ?_⟩) ?_ ?_; rotate_left
          · intro w'
            go_simp
            with_reducible rfl
          rotate_left
          · simp only [Act.put, List.setIfInBounds_toArray, List.set_cons_zero, List.set_cons_succ, i64_w, i32_w]; rfl
          refine take_ (i := 12) (N := (some 49)) (v := ?_) (a' := ?_) #[true, true, true, true, true, true, true, true, true, true, true, true, true, false, false, false] rfl rfl (by kernel_rfl) (fun _ _ _ h => h) (Or.inl ⟨by rfl, ?_⟩) hHeld ?_ ?_; rotate_left
          · rintro w' ⟨s0, s1, s2, s3, s4, s5⟩
            go_simp
            with_reducible rfl
          rotate_left
          · simp only [Act.put, List.setIfInBounds_toArray, List.set_cons_zero, List.set_cons_succ, i64_w, i32_w]; rfl
          refine pure_ (i := 13) (N := (some 50)) (v := ?_) (a' := ?_) #[true, true, true, true, true, true, true, true, true, true, true, true, true, true, false, false] rfl rfl (by kernel_rfl) (fun _ _ _ h => h) (Or.inl ⟨by rfl, ?_⟩) ?_ ?_; rotate_left
          · intro w'
            go_simp
            with_reducible rfl
          rotate_left
          · simp only [Act.put, List.setIfInBounds_toArray, List.set_cons_zero, List.set_cons_succ, i64_w, i32_w]; rfl
          refine pure_ (i := 14) (N := (some 51)) (v := ?_) (a' := ?_) #[true, true, true, true, true, true, true, true, true, true, true, true, true, true, true, false] rfl rfl (by kernel_rfl) (fun _ _ _ h => h) (Or.inl ⟨by rfl, ?_⟩) ?_ ?_; rotate_left
          · intro w'
            go_simp
            with_reducible rfl
          rotate_left
          · simp only [Act.put, List.setIfInBounds_toArray, List.set_cons_zero, List.set_cons_succ, i64_w, i32_w]; rfl
          refine last_ (i := 15) (N := none) #[true, true, true, true, true, true, true, true, true, true, true, true, true, true, true, true] rfl rfl (by kernel_rfl) (by decide) (fun K hK => ?_); refine skip_ (w1 := ?_) (by rfl) rfl ?_ ?_; rotate_left
          · go_simp
            rfl
          refine hK.out _ _ ?_; clear hK K; refine done_ (by kernel_rfl) ?_; rw [show (if rd hs (comes l1 x.1).f1 < rd hs (comes l1 x.1).f0 then rd hs (comes l1 x.1).f1 else rd hs (comes l1 x.1).f0) = min (rd hs (comes l1 x.1).f0) (rd hs (comes l1 x.1).f1) by rw [Int.min_def]; split <;> split <;> omega]; refine (show KeepsFrom W7.heap.size W _ ∧ KpB w.heap.size Be W _ ∧ _ from ⟨hkf.out.trans ((KeepsOthers.setCell _ _ _).from _), ⟨hlow.out.setCell (p := ⟨g4, _, none⟩) HN.out _, ?_⟩, ⟨_, ?_, hput'.out⟩, ?_, ?_, ?_⟩)
          · rw [Below.heap_setCell _ _ _ _ hne.symm, hd0]
          · rw [List.map_append, List.foldlM_append, e1]; show (([x].map fun j : Fin l1.length => comes l1 j.1).foldlM dag_Urge.step hs) = _; simp only [List.map_cons, List.map_nil, List.foldlM_cons, List.foldlM_nil]; unfold dag_Urge.step; rw [if_pos ⟨of_eq_true r0, by rw [hR'.out.1]; exact of_eq_true r1, of_eq_true r2, by rw [hR'.out.1]; exact of_eq_true r3⟩]; rfl
          · rw [Below.heap_setCell _ _ _ _ hne45.symm, hd0]; exact h5'.out
          · rw [Below.heap_setCell _ _ _ _ hne.symm, hd0]; exact he'.out
          · exact (hB'.out.trans hlow.out).setCell (p := ⟨g4, _, none⟩) HN.out _
        case done =>
          rintro D xs W hD rfl ⟨⟨hs, e1, hR⟩, h5, he, hB⟩ hK; rw [upto_all, Hf.out] at e1; obtain rfl := Option.some.inj e1; have b5 := (bC_ h5 0).trans rfl; go_wp2; refine ⟨by simp, .inl ⟨_, _, rfl, run_takeDeferred hK, ?_⟩⟩
          have hne4 : D ≠ g4 := fun e => by
            obtain ⟨cs4, hc4⟩ := hR.cells; rw [← e, hK] at hc4
            cases hc4
          exact ⟨_, results_tmp rfl _ _ _, _, rfl, Kd.R_mono (Row.step (W1 := W.putObj D (.deferred none)) hR (World.putObj_heap_other (Ne.symm hne4))).2 (fun _ _ => trivial), hB.trans (belowK_b (w := w) (Nat.le_refl _) W D _ _ (by have := HB7.out.size; omega) hK rfl rfl)⟩
        case stop =>
          rintro D c pre W _ _ h _; exact h.elim
  · rw [if_neg hlen] at h; exact absurd h (by simp)
end
section
theorem rd_nat (h : List Int) (i : Nat) (hi : i < h.length) : rd h (i : Int) = h[i] := by
  unfold rd; rw [Int.toNat_natCast, List.getD_eq_getElem?_getD, List.getElem?_eq_getElem hi]; rfl
theorem rd_set_same (h : List Int) (i : Nat) (v : Int) (hi : i < h.length) : rd (h.set i v) (i : Int) = v := by
  rw [rd_nat _ _ (by simpa using hi)]; simp
theorem rd_set_other (h : List Int) (i : Nat) (t : Int) (v : Int) (ht : 0 ≤ t) (hne : t ≠ i) : rd (h.set i v) t = rd h t := by
  obtain ⟨t, rfl⟩ := Int.eq_ofNat_of_zero_le ht; unfold rd; rw [Int.toNat_natCast, List.getD_eq_getElem?_getD, List.getD_eq_getElem?_getD, List.getElem?_set_ne (by omega)]
theorem edgesSeg_mem (l : List S24) (i : Nat) : ∀ (d j : Nat) (e : S100), e ∈ edgesSeg l i j d → e.f0 = (i : Int) ∧ ∃ t : Nat, e.f1 = (t : Int) ∧ j ≤ t ∧ t < j + d
  | 0, _, e, h => by simp [edgesSeg] at h
  | d + 1, j, e, h => by
    unfold edgesSeg at h; rcases List.mem_append.1 h with h | h
    · split at h
      · rw [List.mem_singleton] at h; subst h; exact ⟨rfl, j, rfl, Nat.le_refl _, by omega⟩
      · simp at h
    · obtain ⟨h1, t, h2, h3, h4⟩ := edgesSeg_mem l i d (j + 1) e h; exact ⟨h1, t, h2, by omega, by omega⟩
theorem edgesFrom_mem (l : List S24) (i : Nat) (e : S100) (h : e ∈ edgesFrom l i) : e.f0 = (i : Int) ∧ ∃ t : Nat, e.f1 = (t : Int) ∧ i < t ∧ t < l.length := by
  obtain ⟨h1, t, h2, h3, h4⟩ := edgesSeg_mem l i _ _ e h; exact ⟨h1, t, h2, by omega, by omega⟩
theorem edgesUp_filter (l : List S24) (i : Nat) : ∀ (d a : Nat), (edgesUp l a d).filter (fun e => e.f0 == (i : Int)) = if a ≤ i ∧ i < a + d then edgesFrom l i else []
  | 0, a => by rw [if_neg (by omega)]; rfl
  | d + 1, a => by
    rw [edgesUp_succ, List.filter_append, edgesUp_filter l i d (a + 1)]
    by_cases h : a = i
    · subst h; rw [if_neg (by omega), if_pos (by omega), List.append_nil]; apply List.filter_eq_self.2; intro e he; simp [(edgesFrom_mem l a e he).1]
    · have h1 : (edgesFrom l a).filter (fun e => e.f0 == (i : Int)) = [] := by
        apply List.filter_eq_nil_iff.2; intro e he; simp [(edgesFrom_mem l a e he).1]; omega
      rw [h1, List.nil_append]
      by_cases h2 : a + 1 ≤ i ∧ i < a + 1 + d
      · rw [if_pos h2, if_pos (by omega)]
      · rw [if_neg h2, if_neg (by omega)]
section
variable (m : Int → Int → Int) (val : S100 → Int → Int)
def gstep (h : List Int) (x : S100) : Option (List Int) :=
  if 0 ≤ x.f0 ∧ x.f0 < h.length ∧ 0 ≤ x.f1 ∧ x.f1 < h.length then some (h.set x.f0.toNat (m (rd h x.f0) (val x (rd h x.f1)))) else none
def gfold (h : List Int) (seg : List S100) (v : Int) : Int := seg.foldl (fun v e => m v (val e (rd h e.f1))) v
def gAt (init : List Int) (l : List S24) : Nat → List Int
  | 0 => init
  | d + 1 => (gAt init l d).set (l.length - (d + 1)) (gfold m val (gAt init l d) (edgesFrom l (l.length - (d + 1))) (rd (gAt init l d) ((l.length - (d + 1) : Nat) : Int)))
theorem gAt_succ (init : List Int) (l : List S24) (d : Nat) : gAt m val init l (d + 1) = (gAt m val init l d).set (l.length - (d + 1)) (gfold m val (gAt m val init l d) (edgesFrom l (l.length - (d + 1))) (rd (gAt m val init l d) ((l.length - (d + 1) : Nat) : Int))) := rfl
theorem gAt_len (init : List Int) (l : List S24) : ∀ d, (gAt m val init l d).length = init.length
  | 0 => rfl
  | d + 1 => by simp [gAt, gAt_len init l d]
theorem gAt_below (init : List Int) (l : List S24) : ∀ (d t : Nat), t + d < l.length → rd (gAt m val init l d) (t : Int) = rd init (t : Int)
  | 0, t, h => rfl
  | d + 1, t, h => by
    unfold gAt; rw [rd_set_other _ _ _ _ (by omega) (by omega), gAt_below init l d t (by omega)]
theorem gfold_congr (h h' : List Int) : ∀ (seg : List S100) (v : Int), (∀ e ∈ seg, rd h e.f1 = rd h' e.f1) → gfold m val h seg v = gfold m val h' seg v
  | [], v, _ => rfl
  | e :: seg, v, he => by
    unfold gfold; rw [List.foldl_cons, List.foldl_cons, he e List.mem_cons_self]; exact gfold_congr h h' seg _ (fun e h => he e (List.mem_cons_of_mem _ h))
variable {m}
theorem gfold_push (hc : ∀ a b, m a b = m b a) (ha : ∀ a b c, m (m a b) c = m a (m b c)) (h : List Int) : ∀ (seg : List S100) (v a : Int), gfold m val h seg (m v a) = m (gfold m val h seg v) a
  | [], v, a => rfl
  | e :: seg, v, a => by
    unfold gfold; rw [List.foldl_cons, List.foldl_cons]; have := gfold_push hc ha h seg (m v (val e (rd h e.f1))) a; unfold gfold at this; rw [← this]; congr 1; rw [ha, hc a, ← ha]
theorem gfold_rev (hc : ∀ a b, m a b = m b a) (ha : ∀ a b c, m (m a b) c = m a (m b c)) (h : List Int) : ∀ (seg : List S100) (v : Int), gfold m val h seg.reverse v = gfold m val h seg v
  | [], v => rfl
  | e :: seg, v => by
    have h1 := gfold_rev hc ha h seg v; have h2 := gfold_push val hc ha h seg v (val e (rd h e.f1)); unfold gfold at *; rw [List.reverse_cons, List.foldl_append, List.foldl_cons, h1, List.foldl_cons, h2]; rfl
theorem group_steps (i : Nat) : ∀ (seg : List S100) (h : List Int), i < h.length → (∀ e ∈ seg, e.f0 = (i : Int) ∧ ∃ t : Nat, e.f1 = (t : Int) ∧ i < t ∧ t < h.length) →
    seg.foldlM (gstep m val) h = some (h.set i (gfold m val h seg (rd h (i : Int))))
  | [], h, hi, _ => by
    simp only [List.foldlM_nil]; unfold gfold; simp only [List.foldl_nil]
    rw [rd_nat _ _ hi, List.set_getElem_self]; rfl
  | e :: seg, h, hi, he => by
    obtain ⟨e0, t, e1, h1, h2⟩ := he e List.mem_cons_self
    have hs : gstep m val h e = some (h.set i (m (rd h (i : Int)) (val e (rd h e.f1)))) := by
      unfold gstep; rw [e0, if_pos ⟨by omega, by omega, by omega, by omega⟩, Int.toNat_natCast]
    rw [List.foldlM_cons, hs]; show List.foldlM (gstep m val) _ seg = _
    rw [group_steps i seg _ (by simpa using hi) (fun e' h' => by
      obtain ⟨a, b, c, d, f⟩ := he e' (List.mem_cons_of_mem _ h')
      exact ⟨a, b, c, d, by simpa using f⟩)]
    rw [List.set_set, rd_set_same _ _ _ hi]; congr 2; unfold gfold; rw [List.foldl_cons]
    exact gfold_congr m val _ h seg _ (fun e' h' => by
      obtain ⟨a, b, c, d, f⟩ := he e' (List.mem_cons_of_mem _ h')
      exact rd_set_other _ _ _ _ (by omega) (by omega))
theorem back_steps (hc : ∀ a b, m a b = m b a) (ha : ∀ a b c, m (m a b) c = m a (m b c)) (init : List Int) (l : List S24) (hl : init.length = l.length) : ∀ (d i : Nat), i + d = l.length → (edgesUp l i d).reverse.foldlM (gstep m val) init = some (gAt m val init l d)
  | 0, i, _ => rfl
  | d + 1, i, hi => by
    rw [edgesUp_succ, List.reverse_append, List.foldlM_append, back_steps hc ha init l hl d (i + 1) (by omega)]; show (edgesFrom l i).reverse.foldlM (gstep m val) (gAt m val init l d) = _; have hg := gAt_len m val init l d
    rw [group_steps val i _ _ (by omega) (fun e he => by
      obtain ⟨h0, t, h1, h2, h3⟩ := edgesFrom_mem l i e (List.mem_reverse.1 he)
      exact ⟨h0, t, h1, h2, by omega⟩), gfold_rev val hc ha]
    rw [gAt_succ, show l.length - (d + 1) = i by omega]
end
theorem mx_max (a b : Int) : mx a b = max a b := by unfold mx; rw [Int.max_def]; split <;> split <;> omega
def hval (e : S100) (x : Int) : Int := wrap64 (e.f2 + x)
def uval (_ : S100) (x : Int) : Int := x
theorem high_step : dag_High.step = gstep max hval := rfl
theorem urge_step : dag_Urge.step = gstep min uval := rfl
def lates (l : List S24) : List Int := l.map (fun x => lateOp x.f0)
def firsts (n : Nat) : Nat → List S24 → List Int
  | _, [] => []
  | i, x :: xs => (if effOp x.f0 = true then (i : Int) else (n : Int)) :: firsts n (i + 1) xs
def heights (l : List S24) : List Int := gAt max hval (lates l) l l.length
def urges (l : List S24) : List Int := gAt min uval (firsts l.length 0 l) l l.length
def okA (l : List S24) : Prop := ∀ x ∈ l, okI x = true
theorem okA_L {l : List S24} (h : okA l) : okL l := fun i hi => by rw [rd_at l i hi]; exact h _ (List.getElem_mem hi)
theorem high_init {k : Nat} (hk : 5 ≤ k) : ∀ l, okA l → dag_High.init k l = some (lates l)
  | [], _ => rfl
  | x :: xs, h => by
    have hx := okI_op (h x List.mem_cons_self); unfold dag_High.init lates; rw [late_eq hk _ hx.1 hx.2, high_init hk xs (fun y hy => h y (List.mem_cons_of_mem _ hy))]; rfl
theorem urge_init {k : Nat} (hk : 5 ≤ k) (n : Nat) : ∀ i l, okA l → dag_Urge.init k n i l = some (firsts n i l)
  | _, [], _ => rfl
  | i, x :: xs, h => by
    have hx := okI_op (h x List.mem_cons_self); unfold dag_Urge.init firsts; rw [eff_eq hk _ hx.1 hx.2, urge_init hk n (i + 1) xs (fun y hy => h y (List.mem_cons_of_mem _ hy))]; rfl
theorem firsts_len (n : Nat) : ∀ i l, (firsts n i l).length = l.length
  | _, [] => rfl
  | i, x :: xs => by simp [firsts, firsts_len n (i + 1) xs]
theorem high_eq {k : Nat} (hk : 5 ≤ k) (l : List S24) (hl : l.length ≤ 200) (h : okA l) : dag_High.f k l (edges l) = some (heights l) := by
  unfold dag_High.f heights edges; rw [if_pos (by omega), high_init hk l h, high_step]; exact back_steps hval (fun a b => Int.max_comm a b) (fun a b c => Int.max_assoc a b c) (lates l) l (by simp [lates]) l.length 0 (by omega)
theorem urge_eq {k : Nat} (hk : 5 ≤ k) (l : List S24) (hl : l.length ≤ 200) (h : okA l) : dag_Urge.f k l (edges l) = some (urges l) := by
  unfold dag_Urge.f urges edges; rw [if_pos (by omega), urge_init hk _ 0 l h, urge_step]; exact back_steps uval (fun a b => Int.min_comm a b) (fun a b c => Int.min_assoc a b c) (firsts l.length 0 l) l (firsts_len _ _ _) l.length 0 (by omega)
theorem rd51_at (E : List S100) (i : Nat) (h : i < E.length) : J100 E (i : Int) = E[i] := by
  unfold J100; rw [Int.toNat_natCast, List.getD_eq_getElem?_getD, List.getElem?_eq_getElem h]; rfl
theorem set_rd (h : List Int) (i : Nat) (hi : i < h.length) : h.set i (rd h (i : Int)) = h := by
  rw [rd_nat _ _ hi, List.set_getElem_self]
theorem gfold_step {m : Int → Int → Int} {val : S100 → Int → Int} (h : List Int) (i : Nat) (e : S100) (seg : List S100) (hi : i < h.length) (he : ∀ e ∈ seg, ∃ t : Nat, e.f1 = (t : Int) ∧ i < t) :
    (h.set i (m (rd h (i : Int)) (val e (rd h e.f1)))).set i (gfold m val (h.set i (m (rd h (i : Int)) (val e (rd h e.f1)))) seg (rd (h.set i (m (rd h (i : Int)) (val e (rd h e.f1)))) (i : Int))) = h.set i (gfold m val h (e :: seg) (rd h (i : Int))) := by
  rw [List.set_set, rd_set_same _ _ _ hi]; congr 1; unfold gfold; rw [List.foldl_cons]
  exact gfold_congr m val _ h seg _ (fun e' h' => by
    obtain ⟨t, a, b⟩ := he e' h'
    exact rd_set_other _ _ _ _ (by omega) (by omega))
theorem edges_len (l : List S24) : ∀ (d i : Nat), (edgesUp l i d).length ≤ d * l.length
  | 0, i => by simp [edgesUp]
  | d + 1, i => by
    have := edges_len l d (i + 1); have h2 := edgesSeg_len l i (l.length - (i + 1)) (i + 1); rw [edgesUp_succ, Nat.succ_mul]; unfold edgesFrom; rw [List.length_append]; omega
theorem edges_range (l : List S24) : ∀ (d a : Nat) (e : S100), e ∈ edgesUp l a d → ∃ i t : Nat, e.f0 = (i : Int) ∧ e.f1 = (t : Int) ∧ i < t ∧ t < l.length
  | 0, a, e, h => by simp [edgesUp] at h
  | d + 1, a, e, h => by
    rw [edgesUp_succ] at h; rcases List.mem_append.1 h with h | h
    · obtain ⟨h1, t, h2, h3, h4⟩ := edgesFrom_mem l a e h; exact ⟨a, t, h1, h2, h3, h4⟩
    · exact edges_range l d (a + 1) e h
theorem lates_at (l : List S24) (i : Nat) (hi : i < l.length) : rd (lates l) (i : Int) = lateOp (J24 l i).f0 := by
  rw [rd_nat _ _ (by simpa [lates] using hi), rd_at l i hi]; simp [lates]
theorem firsts_at (n : Nat) : ∀ (a : Nat) (l : List S24) (i : Nat), i < l.length → rd (firsts n a l) (i : Int) = if effOp (J24 l i).f0 = true then ((a + i : Nat) : Int) else (n : Int)
  | a, [], i, h => absurd h (Nat.not_lt_zero _)
  | a, x :: xs, 0, h => by simp [firsts, rd, J24]
  | a, x :: xs, i + 1, h => by
    have ih := firsts_at n (a + 1) xs i (by simpa using h); rw [show a + 1 + i = a + (i + 1) by omega] at ih
    have e1 : rd (firsts n a (x :: xs)) ((i + 1 : Nat) : Int) = rd (firsts n (a + 1) xs) (i : Int) := by
      simp [firsts, rd]
    have e2 : J24 (x :: xs) ((i + 1 : Nat) : Int) = J24 xs (i : Int) := by simp [J24]
    rw [e1, e2, ih]
theorem same_from {m : Int → Int → Int} {val : S100 → Int → Int} (l : List S24) (h G : List Int) (i : Nat) (v : Int) (hi : i < l.length) (hl : h.length = l.length) (hG : G.length = l.length) (ha : ∀ t : Nat, i < t → t < l.length → rd h (t : Int) = rd G (t : Int)) (hv : v = rd G (i : Int)) :
    ∀ t : Nat, i ≤ t → t < l.length → rd ((h.set i v).set i (gfold m val (h.set i v) (edgesFrom l i) (rd (h.set i v) (i : Int)))) (t : Int) = rd (G.set i (gfold m val G (edgesFrom l i) (rd G (i : Int)))) (t : Int) := by
  intro t h1 h2; rw [List.set_set, rd_set_same _ _ _ (by omega)]
  by_cases e : t = i
  · subst e; rw [rd_set_same _ _ _ (by omega), rd_set_same _ _ _ (by omega), hv]
    exact gfold_congr m val _ G _ _ (fun e he => by
      obtain ⟨_, u, hu, hu1, hu2⟩ := edgesFrom_mem l t e he; rw [rd_set_other _ _ _ _ (by omega) (by omega), hu]
      exact ha u hu1 hu2)
  · rw [rd_set_other _ _ _ _ (by omega) (by omega), rd_set_other _ _ _ _ (by omega) (by omega)]; exact ha t (by omega) h2
theorem ext_rd (h G : List Int) (n : Nat) (hl : h.length = n) (hG : G.length = n) (ha : ∀ t : Nat, t < n → rd h (t : Int) = rd G (t : Int)) : h = G := by
  apply List.ext_getElem (by omega); intro t h1 h2; have := ha t (by omega)
  rwa [rd_nat _ _ h1, rd_nat _ _ h2] at this
end
section
section
variable (m : Int → Int → Int) (val : S100 → Int → Int)
end
theorem heights_len (l : List S24) : (heights l).length = l.length := by rw [heights, gAt_len]; simp [lates]
theorem urges_len (l : List S24) : (urges l).length = l.length := by rw [urges, gAt_len, firsts_len]
theorem edges_from (l : List S24) (e : S100) (he : e ∈ edges l) (i : Nat) (h0 : e.f0 = (i : Int)) : e ∈ edgesFrom l i := by
  have hf := edgesUp_filter l i l.length 0; obtain ⟨a, t, h1, h2, h3, h4⟩ := edges_range l l.length 0 e he; have : i < l.length := by omega
  rw [if_pos ⟨by omega, by omega⟩] at hf; rw [← hf, List.mem_filter]; exact ⟨he, by simpa using h0⟩
theorem late_range (op : Int) : 1 ≤ lateOp op ∧ lateOp op ≤ 4 := by unfold lateOp; split <;> (try split) <;> (try split) <;> omega
theorem dist_le (x y : S24) : dist x y ≤ 4 := by
  have := late_range x.f0; unfold dist; simp only [mx_max]; split <;> split <;> (try split) <;> omega
theorem edgesSeg_dist (l : List S24) (i : Nat) : ∀ (d j : Nat) (e : S100), e ∈ edgesSeg l i j d → 0 ≤ e.f2 ∧ e.f2 ≤ 4
  | 0, j, e, h => by simp [edgesSeg] at h
  | d + 1, j, e, h => by
    unfold edgesSeg at h; rcases List.mem_append.1 h with h | h
    · split at h
      · rename_i hc
        simp only [List.mem_singleton] at h; subst h; exact ⟨hc, dist_le _ _⟩
      · simp at h
    · exact edgesSeg_dist l i d (j + 1) e h
theorem edges_dist (l : List S24) (e : S100) (he : e ∈ edges l) : 0 ≤ e.f2 ∧ e.f2 ≤ 4 := by
  obtain ⟨a, t, h1, _⟩ := edges_range l l.length 0 e he; exact edgesSeg_dist l a _ _ e (edges_from l e he a h1)
end
section
structure PSt where
  at_ : List Int
  sl : List Int
  left : Int
def rdy (E : List S100) (a : List Int) (i : Nat) (c : Int) : Bool := E.all fun e => e.f1 != (i : Int) || (decide (0 ≤ rd a e.f0) && decide (rd a e.f0 + e.f2 ≤ c))
def cand (may : Nat → Int → Bool) (E : List S100) (a : List Int) (c s : Int) (i : Nat) : Bool := may i s && (decide (rd a i < 0) && rdy E a i c)
def better (U H : List Int) (b i : Int) : Bool := decide (b < 0) || (decide (rd U i < rd U b) || (rd U i == rd U b && decide (rd H b < rd H i)))
def bestUp (p : Nat → Bool) (U H : List Int) : Nat → Int
  | 0 => -1
  | i + 1 => if (p i && better U H (bestUp p U H i) i) = true then (i : Int) else bestUp p U H i
section
variable (may : Nat → Int → Bool) (n : Nat) (E : List S100) (U H : List Int)
def slotStep (x : PSt) (cs : Int × Int) : PSt :=
  let b := bestUp (cand may E x.at_ cs.1 cs.2) U H n
  if 0 ≤ b then ⟨x.at_.set b.toNat cs.1, x.sl.set b.toNat cs.2, x.left - 1⟩ else x
def four4 (c : Int) : List (Int × Int) := [(c, 0), (c, 1), (c, 2), (c, 3)]
def cycStep (x : PSt) (c : Int) : PSt := (four4 c).foldl (slotStep may n E U H) x
def runN : Nat → Int → PSt → PSt
  | 0, _, x => x
  | f + 1, c, x => if 0 < x.left then runN f (c + 1) (cycStep may n E U H x c) else x
end
theorem bestUp_range (p : Nat → Bool) (U H : List Int) : ∀ n, bestUp p U H n = -1 ∨ ∃ i : Nat, i < n ∧ bestUp p U H n = (i : Int) ∧ p i = true
  | 0 => .inl rfl
  | n + 1 => by
    rw [bestUp]
    by_cases h : (p n && better U H (bestUp p U H n) n) = true
    · rw [if_pos h]; simp only [Bool.and_eq_true] at h; exact .inr ⟨n, by omega, rfl, h.1⟩
    · rw [if_neg h]; rcases bestUp_range p U H n with h1 | ⟨i, h1, h2⟩
      · exact .inl h1
      · exact .inr ⟨i, by omega, h2⟩
theorem bestUp_some (p : Nat → Bool) (U H : List Int) : ∀ (n i : Nat), i < n → p i = true → 0 ≤ bestUp p U H n
  | n + 1, i, hi, hp => by
    rw [bestUp]
    by_cases h : (p n && better U H (bestUp p U H n) n) = true
    · rw [if_pos h]; omega
    · rw [if_neg h]
      by_cases hin : i = n
      · subst hin; rw [hp, Bool.true_and] at h; unfold better at h
        by_cases hb : bestUp p U H i < 0
        · rw [decide_eq_true hb] at h; simp at h
        · omega
      · exact bestUp_some p U H n i (by omega) hp
theorem bestUp_congr (p q : Nat → Bool) (U H : List Int) : ∀ n, (∀ i, i < n → p i = q i) → bestUp p U H n = bestUp q U H n
  | 0, _ => rfl
  | n + 1, h => by rw [bestUp, bestUp, bestUp_congr p q U H n (fun i hi => h i (by omega)), h n (by omega)]
theorem rd_lt (h : List Int) (i : Nat) (hi : i < h.length) : rd h (i : Int) = h[i] := by
  unfold rd; rw [Int.toNat_natCast, List.getD_eq_getElem?_getD, List.getElem?_eq_getElem hi]; rfl
theorem rd_same (h : List Int) (i : Nat) (v : Int) (hi : i < h.length) : rd (h.set i v) (i : Int) = v := by
  rw [rd_lt _ i (by simpa using hi)]; simp
theorem rd_other (h : List Int) (i t : Nat) (v : Int) (hne : t ≠ i) : rd (h.set i v) (t : Int) = rd h (t : Int) := by
  unfold rd; rw [Int.toNat_natCast, List.getD_eq_getElem?_getD, List.getD_eq_getElem?_getD, List.getElem?_set_ne (fun e => hne e.symm)]
def opens_ (a : List Int) : Nat := a.countP (fun v => decide (v < 0))
theorem open_set : ∀ (a : List Int) (i : Nat) (v : Int), i < a.length → rd a i < 0 → 0 ≤ v → opens_ (a.set i v) + 1 = opens_ a
  | [], i, v, h, _, _ => absurd h (Nat.not_lt_zero _)
  | x :: a, 0, v, h, h1, h2 => by
    have hx : x < 0 := by simpa [rd] using h1
    simp only [opens_, List.set_cons_zero, List.countP_cons]
    rw [if_neg (by simpa using h2), if_pos (by simpa using hx)]
  | x :: a, i + 1, v, h, h1, h2 => by
    have h1' : rd a i < 0 := by simpa [rd] using h1
    have := open_set a i v (by simpa using h) h1' h2; simp only [opens_, List.set_cons_succ, List.countP_cons] at this ⊢; omega
theorem open_some : ∀ (a : List Int), 0 < opens_ a → ∃ i : Nat, i < a.length ∧ rd a i < 0 ∧ ∀ j : Nat, j < i → 0 ≤ rd a j
  | [], h => absurd h (by simp [opens_])
  | x :: a, h => by
    by_cases hx : x < 0
    · exact ⟨0, by simp, by simpa [rd] using hx, fun j hj => absurd hj (Nat.not_lt_zero _)⟩
    · simp only [opens_, List.countP_cons] at h; rw [if_neg (by simpa using hx)] at h; obtain ⟨i, h1, h2, h3⟩ := open_some a (by simpa [opens_] using h); refine ⟨i + 1, by simpa using h1, by simpa [rd] using h2, fun j hj => ?_⟩
      cases j with
      | zero => simp [rd]; omega
      | succ j => simpa [rd] using h3 j (by omega)
theorem open_none (a : List Int) (h : opens_ a = 0) : ∀ i : Nat, i < a.length → 0 ≤ rd a i := by
  intro i hi; rw [rd_lt a i hi]; have := List.countP_eq_zero.1 h a[i] (List.getElem_mem hi); simpa using this
structure PGood (n : Nat) (c : Int) (x : PSt) : Prop where
  len : x.at_.length = n
  len2 : x.sl.length = n
  left : x.left = (opens_ x.at_ : Int)
  up : ∀ i : Nat, i < n → -1 ≤ rd x.at_ i ∧ rd x.at_ i ≤ c
  slots : ∀ i : Nat, i < n → 0 ≤ rd x.sl i ∧ rd x.sl i ≤ 3
theorem PGood.later {n : Nat} {c d : Int} {x : PSt} (h : PGood n c x) (hd : c ≤ d) : PGood n d x := ⟨h.len, h.len2, h.left, fun i hi => ⟨(h.up i hi).1, Int.le_trans (h.up i hi).2 hd⟩, h.slots⟩
variable {may : Nat → Int → Bool} {n : Nat} {E : List S100} {U H : List Int}
theorem slot_good {c s : Int} {x : PSt} (h : PGood n c x) (hc : 0 ≤ c) (hs : 0 ≤ s ∧ s ≤ 3) : PGood n c (slotStep may n E U H x (c, s)) := by
  unfold slotStep; rcases bestUp_range (cand may E x.at_ c s) U H n with h1 | ⟨i, h1, h2, h3⟩
  · simp only [h1]; rw [if_neg (by omega)]; exact h
  · simp only [h2]; rw [if_pos (by omega), Int.toNat_natCast]
    have hlt : rd x.at_ i < 0 := by
      unfold cand at h3; simp only [Bool.and_eq_true, decide_eq_true_eq] at h3; exact h3.2.1
    refine ⟨by simp [h.len], by simp [h.len2], ?_, ?_, ?_⟩
    · have := open_set x.at_ i c (by rw [h.len]; exact h1) hlt hc; show x.left - 1 = (opens_ (x.at_.set i c) : Int); rw [h.left]; omega
    · intro j hj; show -1 ≤ rd (x.at_.set i c) j ∧ rd (x.at_.set i c) j ≤ c
      by_cases e : j = i
      · subst e; rw [rd_same _ _ _ (by rw [h.len]; exact hj)]; omega
      · rw [rd_other _ _ _ _ e]; exact h.up j hj
    · intro j hj; show 0 ≤ rd (x.sl.set i s) j ∧ rd (x.sl.set i s) j ≤ 3
      by_cases e : j = i
      · subst e; rw [rd_same _ _ _ (by rw [h.len2]; exact hj)]; exact hs
      · rw [rd_other _ _ _ _ e]; exact h.slots j hj
theorem slot_less (x : PSt) (p : Int × Int) : slotStep may n E U H x p = x ∨ (slotStep may n E U H x p).left < x.left := by
  unfold slotStep
  by_cases h : 0 ≤ bestUp (cand may E x.at_ p.1 p.2) U H n
  · simp only [h, if_true]; right; show x.left - 1 < x.left; omega
  · left; simp only [h, if_false]
theorem slots_less : ∀ (ps : List (Int × Int)) (x : PSt), ps.foldl (slotStep may n E U H) x = x ∨ (ps.foldl (slotStep may n E U H) x).left < x.left
  | [], x => .inl rfl
  | p :: ps, x => by
    rw [List.foldl_cons]; rcases slot_less (may := may) (n := n) (E := E) (U := U) (H := H) x p with h | h
    · rw [h]; exact slots_less ps x
    · right; rcases slots_less ps (slotStep may n E U H x p) with h2 | h2
      · rw [h2]; exact h
      · omega
theorem slots_less_at (ps qs : List (Int × Int)) (p : Int × Int) (x : PSt) (i : Nat) (hi : i < n) (hc : cand may E x.at_ p.1 p.2 i = true) : ((ps ++ p :: qs).foldl (slotStep may n E U H) x).left < x.left := by
  rw [List.foldl_append, List.foldl_cons]
  have h3 : ∀ y : PSt, (qs.foldl (slotStep may n E U H) y).left ≤ y.left := fun y => by
    rcases slots_less (may := may) (n := n) (E := E) (U := U) (H := H) qs y with h | h
    · rw [h]; exact Int.le_refl _
    · omega
  rcases slots_less (may := may) (n := n) (E := E) (U := U) (H := H) ps x with h | h
  · rw [h]; have h1 := h3 (slotStep may n E U H x p)
    have h2 : (slotStep may n E U H x p).left < x.left := by
      unfold slotStep; have hb := bestUp_some (cand may E x.at_ p.1 p.2) U H n i hi hc; simp only [hb, if_true]; show x.left - 1 < x.left; omega
    omega
  · have h1 := h3 (slotStep may n E U H (ps.foldl (slotStep may n E U H) x) p); rcases slot_less (may := may) (n := n) (E := E) (U := U) (H := H) (ps.foldl (slotStep may n E U H) x) p with h2 | h2
    · rw [h2] at h1 ⊢; omega
    · omega
theorem cyc_good {c : Int} {x : PSt} (h : PGood n c x) (hc : 0 ≤ c) : PGood n c (cycStep may n E U H x c) := by
  unfold cycStep four4; simp only [List.foldl_cons, List.foldl_nil]; exact slot_good (slot_good (slot_good (slot_good h hc (by omega)) hc (by omega)) hc (by omega)) hc (by omega)
structure PFine (may : Nat → Int → Bool) (n : Nat) (E : List S100) : Prop where
  on : ∀ e ∈ E, ∃ i t : Nat, e.f0 = (i : Int) ∧ e.f1 = (t : Int) ∧ i < t ∧ t < n ∧ 0 ≤ e.f2 ∧ e.f2 ≤ 4
  goes : ∀ i : Nat, i < n → ∃ s : Int, 0 ≤ s ∧ s ≤ 3 ∧ may i s = true
theorem four_split (s c : Int) (h0 : 0 ≤ s) (h1 : s ≤ 3) : ∃ ps qs, four4 c = ps ++ (c, s) :: qs := by
  have : s = 0 ∨ s = 1 ∨ s = 2 ∨ s = 3 := by omega
  rcases this with rfl | rfl | rfl | rfl
  · exact ⟨[], [(c, 1), (c, 2), (c, 3)], rfl⟩
  · exact ⟨[(c, 0)], [(c, 2), (c, 3)], rfl⟩
  · exact ⟨[(c, 0), (c, 1)], [(c, 3)], rfl⟩
  · exact ⟨[(c, 0), (c, 1), (c, 2)], [], rfl⟩
theorem cycs (c : Int) (x : PSt) : cycStep may n E U H (cycStep may n E U H (cycStep may n E U H (cycStep may n E U H x c) (c + 1)) (c + 2)) (c + 3) = (four4 c ++ four4 (c + 1) ++ four4 (c + 2) ++ four4 (c + 3)).foldl (slotStep may n E U H) x := by
  simp only [cycStep, List.foldl_append]
theorem four_less (hf : PFine may n E) {c : Int} {x : PSt} (h : PGood n (c - 1) x) (hl : 0 < x.left) :
    (cycStep may n E U H (cycStep may n E U H (cycStep may n E U H (cycStep may n E U H x c) (c + 1)) (c + 2)) (c + 3)).left < x.left := by
  rw [cycs]; obtain ⟨i, h1, h2, h3⟩ := open_some x.at_ (by have := h.left; omega); rw [h.len] at h1; obtain ⟨s, s0, s1, hm⟩ := hf.goes i h1; obtain ⟨ps, qs, hp⟩ := four_split s (c + 3) s0 s1; rw [hp, ← List.append_assoc]; refine slots_less_at _ qs _ x i h1 ?_; unfold cand; rw [hm, decide_eq_true h2, Bool.true_and, Bool.true_and]; unfold rdy; rw [List.all_eq_true]; intro e he; obtain ⟨a, t, e0, e1, hat, htn, d0, d1⟩ := hf.on e he
  by_cases ht : t = i
  · subst ht; have ha := h3 a hat; have hb := (h.up a (by omega)).2; rw [e0, decide_eq_true ha, decide_eq_true (by show rd x.at_ a + e.f2 ≤ c + 3; omega)]; simp
  · have : (e.f1 != (i : Int)) = true := by simp; omega
    rw [this]; rfl
theorem run_done (f : Nat) (c : Int) (x : PSt) (h : x.left ≤ 0) : runN may n E U H f c x = x := by
  cases f with
  | zero => rfl
  | succ f => rw [runN, if_neg (by omega)]
theorem run_ends (hf : PFine may n E) : ∀ (m : Nat) (c : Int) (x : PSt), PGood n (c - 1) x → 0 ≤ c → x.left ≤ m → ∀ f, 4 * m ≤ f → (runN may n E U H f c x).left = 0 ∧ PGood n (c - 1 + 4 * m) (runN may n E U H f c x)
  | 0, c, x, h, hc, hl, f, hk => by
    rw [run_done f c x (by omega)]
    exact ⟨by have := h.left; omega, h.later (by omega)⟩
  | m + 1, c, x, h, hc, hl, f, hk => by
    have fin : ∀ (g : Nat) (d : Int) (y : PSt), d ≤ c + 4 → y.left ≤ 0 → PGood n (d - 1) y → (runN may n E U H g d y).left = 0 ∧ PGood n (c - 1 + 4 * ((m + 1 : Nat) : Int)) (runN may n E U H g d y) := by
      intro g d y hd hy hg; rw [run_done g d y hy]; exact ⟨by have := hg.left; omega, hg.later (by omega)⟩
    by_cases h0 : 0 < x.left
    · obtain ⟨f, rfl⟩ : ∃ g, f = g + 1 + 1 + 1 + 1 := ⟨f - 4, by omega⟩
      have g1 : PGood n (c + 1 - 1) (cycStep may n E U H x c) := by rw [Int.add_sub_cancel]; exact cyc_good (h.later (by omega)) hc
      have g2 : PGood n (c + 1 + 1 - 1) (cycStep may n E U H (cycStep may n E U H x c) (c + 1)) := by rw [Int.add_sub_cancel]; exact cyc_good (g1.later (by omega)) (by omega)
      have g3 : PGood n (c + 1 + 1 + 1 - 1) (cycStep may n E U H (cycStep may n E U H (cycStep may n E U H x c) (c + 1)) (c + 1 + 1)) := by rw [Int.add_sub_cancel]; exact cyc_good (g2.later (by omega)) (by omega)
      have g4 : PGood n (c + 1 + 1 + 1 + 1 - 1) (cycStep may n E U H (cycStep may n E U H (cycStep may n E U H (cycStep may n E U H x c) (c + 1)) (c + 1 + 1)) (c + 1 + 1 + 1)) := by rw [Int.add_sub_cancel]; exact cyc_good (g3.later (by omega)) (by omega)
      have hless := four_less (U := U) (H := H) hf h h0; rw [show c + 3 = c + 1 + 1 + 1 by omega, show c + 2 = c + 1 + 1 by omega] at hless; rw [runN, if_pos h0, runN]; split
      · rw [runN]; split
        · rw [runN]; split
          · have := run_ends hf m (c + 1 + 1 + 1 + 1) _ g4 (by omega) (by omega) f (by omega); exact ⟨this.1, this.2.later (by omega)⟩
          · rename_i h5
            have := fin f (c + 1 + 1 + 1) _ (by omega) (by omega) g3; rw [run_done f (c + 1 + 1 + 1) _ (by omega)] at this; exact this
        · rename_i h5
          have := fin f (c + 1 + 1) _ (by omega) (by omega) g2; rw [run_done f (c + 1 + 1) _ (by omega)] at this; exact this
      · rename_i h5
        have := fin f (c + 1) _ (by omega) (by omega) g1; rw [run_done f (c + 1) _ (by omega)] at this; exact this
    · exact fin f c x (by omega) (by omega) h
end
section
open Go.RowKit Go.Proofs.YtibfkkjkahpobaaGreatW.PrintWords Go.Proofs.YtibfkkjkahpobaaGreatW.PrintLast
section
variable {P : Program} {ops : Array Oper} {Q : Exit → Act → World → Prop} {md : Region.Mode} {S : World → Prop} {ds : List Nat}
def SqOn (P : Program) (ops : Array Oper) (S : World → Prop) (K : Act → Prop) : List (Nat × Option Tmp × Bool) → Act → Prop
  | [], a => K a
  | (i, N, r) :: is, a => ∃ oi v, ops[i]? = some oi ∧ oi.dst = N ∧ (if r = true then YieldsIf P ops S oi v a else Yields P ops oi v a) ∧ SqOn P ops S K is (a.put N v)
theorem SqOn.nil {K : Act → Prop} {a : Act} (h : K a) : SqOn P ops S K [] a := h
theorem SqOn.pure {K : Act → Prop} {i : Nat} {N : Option Tmp} {is : List (Nat × Option Tmp × Bool)} {a a' : Act} {oi : Oper} {v : Value} (hi : ops[i]? = some oi) (hN : oi.dst = N) (hy : Yields P ops oi v a) (ha : a.put N v = a') (h : SqOn P ops S K is a') : SqOn P ops S K ((i, N, false) :: is) a := by
  subst ha; exact ⟨oi, v, hi, hN, hy, h⟩
theorem SqOn.take {K : Act → Prop} {i : Nat} {N : Option Tmp} {is : List (Nat × Option Tmp × Bool)} {a a' : Act} {oi : Oper} {v : Value} (hi : ops[i]? = some oi) (hN : oi.dst = N) (hy : YieldsIf P ops S oi v a) (ha : a.put N v = a') (h : SqOn P ops S K is a') : SqOn P ops S K ((i, N, true) :: is) a := by
  subst ha; exact ⟨oi, v, hi, hN, hy, h⟩
def sqB (md : Region.Mode) (ops : Array Oper) (ds : List Nat) : List (Nat × Option Tmp × Bool) → Array Bool → Array Bool → Bool
  | [], l, l' => l == l'
  | (i, _, r) :: is, l, l' => (if r = true then takeB md ops ds l (l.setIfInBounds i true) i else anyB md ops l (l.setIfInBounds i true) i) && sqB md ops ds is (l.setIfInBounds i true) l'
theorem sq_ {k n : Nat} {l : Array Bool} {a : Act} {w : World} (is : List (Nat × Option Tmp × Bool)) (l' : Array Bool) (hn : n = k + is.length) (hc : sqB md ops ds is l l' = true)
    (hQ0 : ∀ t v c a w, Q (.panic c) (a.put (some t) v) w → Q (.panic c) a w) (hS : S w) (h : SqOn P ops S (fun a => wpAnyLast P md ops Q S ds k l' a w) is a) : wpAnyLast P md ops Q S ds n l a w := by
  have hQ : ∀ d v c a w, Q (.panic c) (a.put d v) w → Q (.panic c) a w := fun d v => by
    cases d with
    | none => exact fun _ _ _ h => h
    | some t => exact hQ0 t v
  subst hn
  induction is generalizing l a with
  | nil =>
    obtain rfl : l = l' := by simpa [sqB] using hc
    exact h
  | cons i is ih =>
    obtain ⟨i, N, r⟩ := i; obtain ⟨oi, v, ho, hN, hy, h⟩ := h; subst hN; simp only [sqB, Bool.and_eq_true] at hc
    cases r with
    | false =>
      rw [if_neg (by decide)] at hy; refine pure_ (fuel := k + is.length) (v := v) (a' := a.put oi.dst v) (l.setIfInBounds i true) ho rfl (by simpa using hc.1) (fun c a w => hQ _ _ c a w) hy rfl ?_
      exact ih hc.2 h
    | true =>
      rw [if_pos rfl] at hy; refine take_ (fuel := k + is.length) (v := v) (a' := a.put oi.dst v) (l.setIfInBounds i true) ho rfl (by simpa using hc.1) (fun c a w => hQ _ _ c a w) hy hS rfl ?_; exact ih hc.2 h
def sqT (T : Bool × List (List Nat × List Nat)) (B ds : List Nat) : List (Nat × Option Tmp × Bool) → List Bool → List Bool → Bool
  | [], l, l' => l == l'
  | (i, _, r) :: is, l, l' => (if r = true then takeW T B ds l (l.set i true) i else anyT T l (l.set i true) i) && sqT T B ds is (l.set i true) l'
theorem sq_of {T : Bool × List (List Nat × List Nat)} {B : List Nat} (hT : rtab md ops = T) (hB : waitsOk T.2 B = true) : ∀ {is : List (Nat × Option Tmp × Bool)} {l l' : Array Bool}, sqT T B ds is l.toList l'.toList = true → sqB md ops ds is l l' = true
  | [], l, l', h => by
    simp only [sqT, beq_iff_eq] at h; simp only [sqB, beq_iff_eq]
    exact Array.toList_inj.1 h
  | (i, _, r) :: is, l, l', h => by
    simp only [sqT, Bool.and_eq_true] at h; simp only [sqB, Bool.and_eq_true]; have e : (l.setIfInBounds i true).toList = l.toList.set i true := by simp
    refine ⟨?_, sq_of hT hB (by rw [e]; exact h.2)⟩
    cases r with
    | false => exact any_of hT (by rw [e]; simpa using h.1)
    | true => exact take_ofW hT hB (by rw [e]; simpa using h.1)
end
end
end Go.Proofs.YtibfkkjkahpobaaGreat.PDag
