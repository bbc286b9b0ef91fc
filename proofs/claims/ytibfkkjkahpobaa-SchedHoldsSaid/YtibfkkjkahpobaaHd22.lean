import Derived.Test.YtibfkkjkahpobaaHd17
import Derived.Test.YtibfkkjkahpobaaHd16
import Derived.Test.YtibfkkjkahpobaaHd15
import Derived.Test.YtibfkkjkahpobaaHd21
import Derived.Test.YtibfkkjkahpobaaHd19
import Derived.Test.YtibfkkjkahpobaaHd20
set_option linter.unusedVariables false
set_option linter.unusedSimpArgs false
set_option maxHeartbeats 8000000
set_option maxRecDepth 100000
open Go.RowKit Go.Proofs.YtibfkkjkahpobaaW.PrintWords Go.Proofs.YtibfkkjkahpobaaW.PrintLast Go.Proofs.YtibfkkjkahpobaaW.PrintMore
namespace Go.Proofs.Ytibfkkjkahpobaa.PDag
section
open Go.RowKit Go.Shelf Go.Proofs.YtibfkkjkahpobaaW.PrintWords Go.Proofs.YtibfkkjkahpobaaW.PrintLast Go.Proofs.YtibfkkjkahpobaaW.PrintMore
attribute [local go_sem] Oper.semAt_some
def dag_Urge.step (h : List Int) (x : S51) : Option (List Int) :=
  if 0 ≤ x.f0 ∧ x.f0 < h.length ∧ 0 ≤ x.f1 ∧ x.f1 < h.length then some (h.set x.f0.toNat (min (rd h x.f0) (rd h x.f1))) else none
def dag_Urge.init (k n : Nat) : Nat → List S24 → Option (List Int)
  | _, [] => some []
  | i, x :: xs => (isa_Effect.f k x.f0).bind fun v => (dag_Urge.init k n (i + 1) xs).bind fun r => some ((if v = true then (i : Int) else (n : Int)) :: r)
def dag_Urge.f (k : Nat) (l : List S24) (es : List S51) : Option (List Int) := if l.length ≤ 35184372088832 then (dag_Urge.init k l.length 0 l).bind fun h => es.reverse.foldlM dag_Urge.step h else none
theorem dag_Urge.init_at (k n : Nat) : ∀ (i : Nat) (l : List S24) (h0 : List Int), dag_Urge.init k n i l = some h0 → h0.length = l.length ∧ ∀ j : Nat, j < l.length → ∃ v, isa_Effect.f k (J24 l j).f0 = some v ∧ rd h0 j = if v = true then ((i + j : Nat) : Int) else (n : Int)
  | i, [], h0, h => by
    simp only [dag_Urge.init, Option.some.injEq] at h; subst h
    exact ⟨rfl, fun j hj => absurd hj (Nat.not_lt_zero _)⟩
  | i, x :: xs, h0, h => by
    simp only [dag_Urge.init] at h; obtain ⟨v, hv, h⟩ := Option.bind_eq_some_iff.mp h; obtain ⟨r, hr, h⟩ := Option.bind_eq_some_iff.mp h; obtain rfl := Option.some.inj h; obtain ⟨h1, h2⟩ := dag_Urge.init_at k n (i + 1) xs r hr; refine ⟨by simp [h1], fun j hj => ?_⟩
    cases j with
    | zero => exact ⟨v, by simpa [J24] using hv, by simp [rd]⟩
    | succ j =>
      obtain ⟨u, h3, h4⟩ := h2 j (by simpa using hj); refine ⟨u, by simpa [J24] using h3, ?_⟩; rw [show i + (j + 1) = i + 1 + j by omega, ← h4]; simp [rd]
theorem dag_Urge.range : ∀ (es : List S51) (h r : List Int), es.foldlM dag_Urge.step h = some r → (∀ x ∈ es, 0 ≤ x.f0 ∧ x.f0 < h.length ∧ 0 ≤ x.f1 ∧ x.f1 < h.length)
  | [], h, r, _ => by simp
  | x :: es, h, r, hf => by
    rw [List.foldlM_cons] at hf; obtain ⟨h1, hs, hf⟩ := Option.bind_eq_some_iff.mp hf; unfold dag_Urge.step at hs; split at hs
    · rename_i hc
      have h2 := dag_Urge.range es h1 r hf; have hl : h1.length = h.length := by rw [← Option.some.inj hs]; simp
      rw [hl] at h2; intro y hy; rcases List.mem_cons.1 hy with rfl | hy
      · exact hc
      · exact h2 y hy
    · exact absurd hs (by simp)
theorem dag_Urge.calls (k : Nat) (A0 : Option Addr) (c0 : Nat) (l0 : List S24) (A1 : Option Addr) (c1 : Nat) (l1 : List S51) (r : List Int) (w : World) (hr0 : Kd.C k24 w A0 l0.length l0) (hc0 : l0.length ≤ c0) (hr1 : Kd.C k51 w A1 l1.length l1) (hc1 : l1.length ≤ c1) (h : dag_Urge.f k l0 l1 = some r) :
    Calls Try.prog 60 #[.slice A0 l0.length c0, .slice A1 l1.length c1] w fun e w' => ∃ v0_ : Value, e = .returned (v0_) ∧ Kd.R (Kd.int .i64) 3 w' w.heap.size (fun _ => True) v0_ r ∧ Below w.heap.size w w' := by
  have hu24 := Try.underlying24; have hu51 := Try.underlying51; unfold dag_Urge.f at h
  by_cases hlen : l0.length ≤ 35184372088832
  · rw [if_pos hlen] at h; obtain ⟨h0, hi, hf⟩ := Option.bind_eq_some_iff.mp h; have Hi := aM_ hi; have Hf := aM_ hf; clear h hi hf; refine callsIn_wide.1 (callsIn_of_wp_marks (n := 5) Try.func60 rfl trivial ?_ rfl); refine wpIn_wide.2 ?_; simp only [Try.ntmps60, List.size_toArray, List.length_cons, List.length_nil, Nat.reduceAdd, Nat.reduceSub, Array.replicate_succ, Array.replicate_zero, List.push_toArray, List.append_toArray, List.nil_append, List.cons_append]; have HM := aM_ hlen; have HB := aM_ (Below.refl w.heap.size w)
    go_wp2_with (first | ((with_reducible refine gate_dst (N := 12) rfl ?_); refine Kd.R_make (Kd.int .i64) _ 3 rfl (N := 12) rfl 25 _ _ rfl (l0.length : Int) rfl rfl Try.underlying25 (.int .i64 0) 8 info3 rfl (by decide) (by omega) 0 (ok := fun k => w.heap.size ≤ k) (okp := fun k => w.heap.size ≤ k) rfl (fun _ hk => hk) (Nat.le_refl _) (Int.natCast_nonneg _) (by have := HM.out; omega) (Below.refl _ _) (Nat.le_refl _) ?_; intro v12 w5 ho6 hb hg_ hnew_; obtain ⟨g4, cap4, e4, hg4, hRow⟩ := Row.shape ho6 hnew_; subst e4; simp only [List.length_replicate, Int.toNat_natCast] at hRow ⊢; have HO := aM_ hRow; have HB1 := aM_ hb; have HN := aM_ hg4; clear ho6 hb hg_ hnew_ hg4 hRow) | ((with_reducible refine gate_dst (N := 5) rfl ?_); refine bX_ (N := 5) (cs := #[.slice none 0 0]) (t := 25) ?_; intro g5 hg w6 hbox hb; have hcb := (bC_ hbox 0).trans rfl; have hfb := bZ_ hbox 0; have BX := aM_ hbox; have HG := aM_ hg; have HB2 := aM_ hb; clear hbox hg hb))
    obtain ⟨hl0, hlate⟩ := dag_Urge.init_at k l0.length 0 l0 h0 Hi.out; have hlt4 : g4 < w5.heap.size := HO.out.lt; have hne45 : g4 ≠ g5 := by have := HG.out; omega
    go_loopw [15] (fun i wr => ∃ j : Nat, j ≤ l0.length ∧ i = .int .i64 j ∧ As_ (Row w.heap.size wr g4 cap4 l0.length (h0.take j ++ List.replicate (l0.length - j) 0)) ∧ As_ (wr.heap[g5]? = some (.cells #[.slice (some ⟨g4, 0, none⟩) l0.length cap4] 25 (0, 0))) ∧ As_ (Below w.heap.size w wr)) (fun i _ => l0.length - (intOf i).toNat)
    case atStart =>
      refine ⟨0, Nat.zero_le _, rfl, ⟨?_⟩, ⟨?_⟩, ⟨?_⟩⟩
      · simp only [List.take_zero, List.nil_append, Nat.sub_zero]; exact HO.out.step (by rw [Below.heap_setCell _ _ _ _ hne45]; exact HB2.out.block g4 hlt4)
      · exact blk_put BX.out 0 _ rfl
      · exact (HB1.out.trans (HB2.out.mono HB1.out.size)).setCell (p := ⟨g5, 0, none⟩) (by show w.heap.size ≤ g5; have := HG.out; have := HB1.out.size; omega) _
    case round =>
      clear hcb hfb HO BX; obtain ⟨j, hj, rfl, HO, BX, HB⟩ := hrel
      by_cases hlt : j < l0.length
      · have hla := aM_ (hlate j hlt); clear hlate; obtain ⟨ad, e1, hx0, hx1, hx2, hx3, hx4, hx5⟩ := at_T24 hr0 (j : Int) (Int.natCast_nonneg _) (by omega); subst e1; rw [Int.toNat_natCast] at hx0 hx1 hx2 hx3 hx4 hx5; replace hx0 := hC_ HB hx0; replace hx1 := hC_ HB hx1; replace hx2 := hC_ HB hx2; replace hx3 := hC_ HB hx3; replace hx4 := hC_ HB hx4; replace hx5 := hC_ HB hx5; have p1 : ((0 : Int) ≤ (j : Int)) = True := eq_true (Int.natCast_nonneg _); have q1 : ((j : Int) < (l0.length : Int)) = True := eq_true (by omega); have q2 : (j < l0.length) = True := eq_true hlt; have bx : (wr.alloc (.cells #[.int .i64 0, .int .i64 0, .int .i64 0, .int .i64 0, .int .i64 0, .string (⟨#[]⟩ : ByteArray)] 24)).heap[wr.heap.size]? = some (.cells #[.int .i64 0, .int .i64 0, .int .i64 0, .int .i64 0, .int .i64 0, .string (⟨#[]⟩ : ByteArray)] 24 (0, 0)) := blk_new wr _; have z0 := (bC_ bx 0).trans rfl; have z1 := (bC_ bx 1).trans rfl; have z2 := (bC_ bx 2).trans rfl; have z3 := (bC_ bx 3).trans rfl; have z4 := (bC_ bx 4).trans rfl; have z5 := (bC_ bx 5).trans rfl; have y0 := bZ_ bx 0; have y1 := bZ_ bx 1; have y2 := bZ_ bx 2; have y3 := bZ_ bx 3; have y4 := bZ_ bx 4; have y5 := bZ_ bx 5; clear bx; have n5 : g5 ≠ wr.heap.size := by have := blk_lt BX.out; omega
        have n5' : wr.heap.size ≠ g5 := fun e => n5 e.symm; have n4 : g4 ≠ wr.heap.size := by have := HO.out.lt; omega
        have n4' : wr.heap.size ≠ g4 := fun e => n4 e.symm; have bx := blk_new wr (.cells #[.int .i64 (J24 l0 (j : Int)).f0, .int .i64 (J24 l0 (j : Int)).f1, .int .i64 (J24 l0 (j : Int)).f2, .int .i64 (J24 l0 (j : Int)).f3, .int .i64 (J24 l0 (j : Int)).f4, .string (J24 l0 (j : Int)).f5] 24 (0, 0)); have HO7 := aM_ (HO.out.step (Below.heap_alloc wr (.cells #[.int .i64 (J24 l0 (j : Int)).f0, .int .i64 (J24 l0 (j : Int)).f1, .int .i64 (J24 l0 (j : Int)).f2, .int .i64 (J24 l0 (j : Int)).f3, .int .i64 (J24 l0 (j : Int)).f4, .string (J24 l0 (j : Int)).f5] 24 (0, 0)) g4 HO.out.lt)); have BX7 := aM_ (kA_ BX.out (.cells #[.int .i64 (J24 l0 (j : Int)).f0, .int .i64 (J24 l0 (j : Int)).f1, .int .i64 (J24 l0 (j : Int)).f2, .int .i64 (J24 l0 (j : Int)).f3, .int .i64 (J24 l0 (j : Int)).f4, .string (J24 l0 (j : Int)).f5] 24 (0, 0))); have HB7 := aM_ (HB.out.alloc HB.out.size (.cells #[.int .i64 (J24 l0 (j : Int)).f0, .int .i64 (J24 l0 (j : Int)).f1, .int .i64 (J24 l0 (j : Int)).f2, .int .i64 (J24 l0 (j : Int)).f3, .int .i64 (J24 l0 (j : Int)).f4, .string (J24 l0 (j : Int)).f5] 24 (0, 0))); have x0 := (bC_ bx 0).trans rfl; have b5 := (bC_ BX7.out 0).trans rfl; have hR := HO7.out.cell (j : Int) (Int.natCast_nonneg _) (by omega); rw [Int.toNat_natCast] at hR; obtain ⟨b4, b4'⟩ := hR; clear bx; obtain ⟨t, ht, hrd⟩ := hla.out; have ht := aM_ ht; have hrd := aM_ hrd; clear hla
        cases t
        all_goals go_wp2_with (first | (go_at_call 94; (with_reducible refine (isa_Effect.calls k (J24 l0 (j : Int)).f0 _ _ ht.out).mono ?_); rintro e w' ⟨rfl, ⟨nd, rfl⟩⟩))
        all_goals go_roundw
        all_goals first
          | (refine ⟨j + 1, by omega, by simp, ⟨?_⟩, ⟨?_⟩, ⟨?_⟩⟩
             · have e_ := hrd.out; simp only [Bool.false_eq_true, if_false, if_true, Nat.zero_add] at e_; rw [← dag_High.set_at h0 l0.length j hl0 hlt, e_]
               first
                 | exact Row.step (Row.putN HO7.out j _) rfl
                 | exact Row.putN (HO7.out.step rfl) j _
                 | (rw [← List.set_set]; exact Row.putN (Row.step (Row.putN HO7.out j _) rfl) j _)
             · first
                 | (show ((wr.alloc (.cells #[.int .i64 (J24 l0 (j : Int)).f0, .int .i64 (J24 l0 (j : Int)).f1, .int .i64 (J24 l0 (j : Int)).f2, .int .i64 (J24 l0 (j : Int)).f3, .int .i64 (J24 l0 (j : Int)).f4, .string (J24 l0 (j : Int)).f5] 24 (0, 0))).setCell ⟨g4, j, none⟩ _).heap[g5]? = _; rw [Below.heap_setCell _ _ _ _ hne45.symm]; exact BX7.out)
                 | (rw [Below.heap_setCell _ _ _ _ hne45.symm]; show ((wr.alloc (.cells #[.int .i64 (J24 l0 (j : Int)).f0, .int .i64 (J24 l0 (j : Int)).f1, .int .i64 (J24 l0 (j : Int)).f2, .int .i64 (J24 l0 (j : Int)).f3, .int .i64 (J24 l0 (j : Int)).f4, .string (J24 l0 (j : Int)).f5] 24 (0, 0))).setCell ⟨g4, j, none⟩ _).heap[g5]? = _; rw [Below.heap_setCell _ _ _ _ hne45.symm]; exact BX7.out)
                 | (rw [Below.heap_setCell _ _ _ _ hne45.symm]; exact BX7.out)
             · repeat (first | exact HB7.out | apply bN_ | apply b1_ | refine Below.setCell (p := ⟨g4, j, none⟩) ?_ HN.out _))
          | (simp [intOf]; omega)
          | trace_state
      · obtain rfl : j = l0.length := by omega
        have p1 : ((l0.length : Int) < (l0.length : Int)) = False := eq_false (by omega); simp only [Nat.sub_self, List.replicate_zero, List.append_nil, List.take_of_length_le (Nat.le_of_eq hl0)] at HO
        go_wp2_with (go_at_call 93; refine (callsIn_wide.1 (back_in Fence.wide 1 trivial rfl _ _ _ _)).mono ?_; rintro e w' ⟨rfl, rfl⟩)
        have hbe := blk_new wr (.cells #[.slice A1 l1.length c1] 31 (0, 0)); have HO7 := aM_ (HO.out.step (Below.heap_alloc wr (.cells #[.slice A1 l1.length c1] 31 (0, 0)) g4 HO.out.lt)); have BX7 := aM_ (kA_ BX.out (.cells #[.slice A1 l1.length c1] 31 (0, 0))); have HB7 := aM_ (HB.out.alloc HB.out.size (.cells #[.slice A1 l1.length c1] 31 (0, 0))); have hlt5 := blk_lt BX.out; have hsz : (wr.alloc (.cells #[.slice A1 l1.length c1] 31 (0, 0))).heap.size = wr.heap.size + 1 := by simp
        have hwr := HB.out.size; obtain ⟨Be, hBe⟩ : ∃ Be, Be = wr.heap.size := ⟨_, rfl⟩
        rw [← hBe] at hbe hsz hlt5 ⊢; generalize hW7 : wr.alloc (.cells #[.slice A1 l1.length c1] 31 (0, 0)) = W7 at hbe HO7 BX7 HB7 hsz ⊢; have hrg := dag_Urge.range _ _ _ Hf.out
        refine wpIn_wide.1 (wpIn_rangeFunc_ownH (F := Fence.wide) (n := 5) rfl (by omega) (gf := 116) (lb := #[.pointer (some ⟨Be, 0, none⟩)]) rfl trivial (enters_of Try.func116 (by kernel_rfl) rfl)
          (back_stops Fence.wide (5 - 1) trivial rfl (by omega) Be A1 c1 l1 w W7 hr1 HB7.out hbe) (fun h k => KpB.t h k) (KpB.b HB7.out.size (by omega)) (Below.refl _ _) (fun _ => rfl)
          (fun pre W => (∃ hs, (pre.map (fun j : Fin l1.length => comes l1 j.1)).foldlM dag_Urge.step h0 = some hs ∧ Row w.heap.size W g4 cap4 l0.length hs) ∧ W.heap[g5]? = some (.cells #[.slice (some ⟨g4, 0, none⟩) l0.length cap4] 25 (0, 0)) ∧ W.heap[Be]? = some (.cells #[.slice A1 l1.length c1] 31 (0, 0)) ∧ Below w.heap.size w W)
          (fun _ _ _ => False)
          ?hI (fun _ _ _ _ _ hs _ _ => hs) ⟨⟨h0, rfl, HO7.out⟩, BX7.out, hbe, HB7.out⟩
          (fun x a' W => ∃ Bx, Be < Bx ∧ W.heap[Bx]? = some (.cells #[.int .i64 (comes l1 x.1).f0, .int .i64 (comes l1 x.1).f1, .int .i64 (comes l1 x.1).f2] 51 (0, 0)) ∧
            a' = { tmps := (Value.slice A0 l0.length c0 :: Value.slice A1 l1.length c1 :: undef :: undef :: Value.slice none 0 0 :: Value.pointer (some ⟨g5, 0, none⟩) :: u6 :: u7 :: undef :: Value.pointer (some ⟨Bx, 0, none⟩) :: Value.slice A0 l0.length c0 :: Value.int .i64 l0.length :: Value.slice (some ⟨g4, 0, none⟩) l0.length cap4 :: Value.slice A0 l0.length c0 :: Value.int .i64 l0.length :: Value.int .i64 l0.length :: Value.bool false :: u17 :: u18 :: u19 :: u20 :: u21 :: u22 :: u23 :: u24 :: u25 :: u26 :: u27 :: u28 :: u29 :: u30 :: u31 :: u32 :: Value.slice A1 l1.length c1 :: Value.func (.func 116) #[] #[.pointer (some ⟨Be, 0, none⟩)] :: Value.int .i64 ((l1.length : Int) - 1 - (x.1 : Int)) :: Value.agg #[.int .i64 (comes l1 x.1).f0, .int .i64 (comes l1 x.1).f1, .int .i64 (comes l1 x.1).f2] :: undef :: undef :: undef :: undef :: undef :: undef :: undef :: undef :: undef :: undef :: undef :: undef :: undef :: undef :: undef :: undef :: []).toArray, defers := [] })
          ?hAx ?assign ?body ?done ?stop)
        case hI =>
          rintro pre X Y row ⟨⟨hs, e1, hR⟩, h5, he, hB⟩ hg hr; obtain ⟨cs4, hc4⟩ := hR.cells; exact ⟨⟨hs, e1, hR.step (own_blk hc4 hg hr)⟩, (own_blk h5 hg hr).trans h5, (own_blk he hg hr).trans he, hB.grown hg hB.size (fun k e => by have := (hr k e).1; omega)⟩
        case hAx =>
          rintro x a' _ X Y row ⟨Bx, h1, h2, h3⟩ hg hr; exact ⟨Bx, h1, (own_blk h2 hg hr).trans h2, h3⟩
        case assign =>
          rintro l pre x W K ⟨⟨hs, e1, hR⟩, h5, he, hB⟩ hK; have bx : (W.alloc (.cells #[.int .i64 0, .int .i64 0, .int .i64 0] 51)).heap[W.heap.size]? = some (.cells #[.int .i64 0, .int .i64 0, .int .i64 0] 51 (0, 0)) := blk_new W _; have z0 := (bC_ bx 0).trans rfl; have z1 := (bC_ bx 1).trans rfl; have z2 := (bC_ bx 2).trans rfl; have y0 := bZ_ bx 0; have y1 := bZ_ bx 1; have y2 := bZ_ bx 2; clear bx
          gi_wp2
          exact hK _ _ ((KeepsOthers.alloc _ _).from _) ⟨(Below.refl _ W).alloc hB.size _, Below.heap_alloc W _ Be (blk_lt he)⟩ ⟨⟨hs, e1, hR.step (Below.heap_alloc W _ g4 hR.lt)⟩, kA_ h5 _, kA_ he _, hB.alloc hB.size _⟩ ⟨W.heap.size, blk_lt he, blk_new W _, by subst hBe; rfl⟩
        case body =>
          rintro l pre x a' W hl ⟨r', hr'⟩ ⟨⟨hs, e1, hR⟩, h5, he, hB⟩ ⟨Bx, hBx, hbx, rfl⟩ hlen'; obtain ⟨r0, r1, r2, r3⟩ := hrg (comes l1 x.1) (comes_mem l1 x.1 x.2); rw [hl0] at r1 r3; have x0 := (bC_ hbx 0).trans rfl; have x1 := (bC_ hbx 1).trans rfl; have x2 := (bC_ hbx 2).trans rfl; have b5 := (bC_ h5 0).trans rfl; obtain ⟨c0', c0f⟩ := hR.cell (comes l1 x.1).f0 r0 r1; obtain ⟨c1', c1f⟩ := hR.cell (comes l1 x.1).f1 r2 r3; have hput := aM_ (hR.put (comes l1 x.1).f0 (min (rd hs (comes l1 x.1).f0) (rd hs (comes l1 x.1).f1))); have hne : g4 ≠ Be := by have := hR.lt; have := blk_lt he; have := HO.out.lt; omega
          clear hr' hl; replace r0 := eq_true r0; replace r1 := eq_true r1; replace r2 := eq_true r2; replace r3 := eq_true r3; have hR' := aM_ hR; have h5' := aM_ h5; have he' := aM_ he; have hB' := aM_ hB; clear hR h5 he hB hbx
          gi_wp2
          refine startIn_ (n := 16) (S := fun w' => w'.cell? ⟨g5, 0, none⟩ = some (.slice (some ⟨g4, 0, none⟩) l0.length cap4) ∧ w'.cell? ⟨Bx, 0, none⟩ = some (.int .i64 (comes l1 x.1).f0) ∧ w'.cell? ⟨Bx, 1, none⟩ = some (.int .i64 (comes l1 x.1).f1) ∧ w'.cell? ⟨Bx, 2, none⟩ = some (.int .i64 (comes l1 x.1).f2) ∧ w'.cell? ⟨g4, (comes l1 x.1).f0.toNat, none⟩ = some (.int .i64 (rd hs (comes l1 x.1).f0)) ∧ w'.cell? ⟨g4, (comes l1 x.1).f1.toNat, none⟩ = some (.int .i64 (rd hs (comes l1 x.1).f1))) (ds := [15]) #[false, false, false, false, false, false, false, false, false, false, false, false, false, false, false, false] (by kernel_rfl) (by kernel_rfl) rfl rfl ⟨b5, x0, x1, x2, c0', c1'⟩ (fun hHeld => ?_); have f0' : W.drew.frozen? ⟨g4, (comes l1 x.1).f0.toNat, none⟩ = false := c0f; have hput' : As_ (Row w.heap.size (W.drew.setCell ⟨g4, (comes l1 x.1).f0.toNat, none⟩ (.int .i64 (min (rd hs (comes l1 x.1).f0) (rd hs (comes l1 x.1).f1)))) g4 cap4 l0.length _) := ⟨hput.out.step rfl⟩
          have hd0 : ∀ b : Nat, W.drew.heap[b]? = W.heap[b]? := fun _ => rfl; have hlow := aM_ (below_drew (Below.refl w.heap.size W)); have hkf := aM_ ((KeepsOthers.drew W).from W7.heap.size); have hc0 := c0'; clear c0f c1f hput; replace c0' : W.drew.cell? ⟨g4, (comes l1 x.1).f0.toNat, none⟩ = _ := hc0; clear hc0 x0 x1 x2 b5 c1'; generalize W.drew = w2 at c0' f0' hput' hd0 hlow hkf hHeld ⊢; refine take_ (i := 0) (N := (some 37)) (v := ?_) (a' := ?_) #[true, false, false, false, false, false, false, false, false, false, false, false, false, false, false, false] rfl rfl (by kernel_rfl) (fun _ _ _ h => h) (Or.inl ⟨by rfl, ?_⟩) hHeld ?_ ?_; rotate_left
          · rintro w' ⟨s0, s1, s2, s3, s4, s5⟩
            go_simp
            with_reducible rfl
          rotate_left
          · simp only [Act.put, List.setIfInBounds_toArray, List.set_cons_zero, List.set_cons_succ, i64_w, i32_w]; rfl
          refine pure_ (i := 1) (N := (some 38)) (v := ?_) (a' := ?_) #[true, true, false, false, false, false, false, false, false, false, false, false, false, false, false, false] rfl rfl (by kernel_rfl) (fun _ _ _ h => h) (Or.inl ⟨by rfl, ?_⟩) ?_ ?_; rotate_left
          · intro w'
            go_simp
            with_reducible rfl
          rotate_left
          · simp only [Act.put, List.setIfInBounds_toArray, List.set_cons_zero, List.set_cons_succ, i64_w, i32_w]; rfl
          refine take_ (i := 2) (N := (some 39)) (v := ?_) (a' := ?_) #[true, true, true, false, false, false, false, false, false, false, false, false, false, false, false, false] rfl rfl (by kernel_rfl) (fun _ _ _ h => h) (Or.inl ⟨by rfl, ?_⟩) hHeld ?_ ?_; rotate_left
          · rintro w' ⟨s0, s1, s2, s3, s4, s5⟩
            go_simp
            with_reducible rfl
          rotate_left
          · simp only [Act.put, List.setIfInBounds_toArray, List.set_cons_zero, List.set_cons_succ, i64_w, i32_w]; rfl
          refine take_ (i := 3) (N := (some 40)) (v := ?_) (a' := ?_) #[true, true, true, true, false, false, false, false, false, false, false, false, false, false, false, false] rfl rfl (by kernel_rfl) (fun _ _ _ h => h) (Or.inl ⟨by rfl, ?_⟩) hHeld ?_ ?_; rotate_left
          · rintro w' ⟨s0, s1, s2, s3, s4, s5⟩
            go_simp
            with_reducible rfl
          rotate_left
          · simp only [Act.put, List.setIfInBounds_toArray, List.set_cons_zero, List.set_cons_succ, i64_w, i32_w]; rfl
          refine pure_ (i := 4) (N := (some 41)) (v := ?_) (a' := ?_) #[true, true, true, true, true, false, false, false, false, false, false, false, false, false, false, false] rfl rfl (by kernel_rfl) (fun _ _ _ h => h) (Or.inl ⟨by rfl, ?_⟩) ?_ ?_; rotate_left
          · intro w'
            go_simp
            with_reducible rfl
          rotate_left
          · simp only [Act.put, List.setIfInBounds_toArray, List.set_cons_zero, List.set_cons_succ, i64_w, i32_w]; rfl
          refine take_ (i := 5) (N := (some 42)) (v := ?_) (a' := ?_) #[true, true, true, true, true, true, false, false, false, false, false, false, false, false, false, false] rfl rfl (by kernel_rfl) (fun _ _ _ h => h) (Or.inl ⟨by rfl, ?_⟩) hHeld ?_ ?_; rotate_left
          · rintro w' ⟨s0, s1, s2, s3, s4, s5⟩
            go_simp
            with_reducible rfl
          rotate_left
          · simp only [Act.put, List.setIfInBounds_toArray, List.set_cons_zero, List.set_cons_succ, i64_w, i32_w]; rfl
          refine pure_ (i := 6) (N := (some 43)) (v := ?_) (a' := ?_) #[true, true, true, true, true, true, true, false, false, false, false, false, false, false, false, false] rfl rfl (by kernel_rfl) (fun _ _ _ h => h) (Or.inl ⟨by rfl, ?_⟩) ?_ ?_; rotate_left
          · intro w'
            go_simp
            with_reducible rfl
          rotate_left
          · simp only [Act.put, List.setIfInBounds_toArray, List.set_cons_zero, List.set_cons_succ, i64_w, i32_w]; rfl
          refine take_ (i := 7) (N := (some 44)) (v := ?_) (a' := ?_) #[true, true, true, true, true, true, true, true, false, false, false, false, false, false, false, false] rfl rfl (by kernel_rfl) (fun _ _ _ h => h) (Or.inl ⟨by rfl, ?_⟩) hHeld ?_ ?_; rotate_left
          · rintro w' ⟨s0, s1, s2, s3, s4, s5⟩
            go_simp
            with_reducible rfl
          rotate_left
          · simp only [Act.put, List.setIfInBounds_toArray, List.set_cons_zero, List.set_cons_succ, i64_w, i32_w]; rfl
          refine take_ (i := 8) (N := (some 45)) (v := ?_) (a' := ?_) #[true, true, true, true, true, true, true, true, true, false, false, false, false, false, false, false] rfl rfl (by kernel_rfl) (fun _ _ _ h => h) (Or.inl ⟨by rfl, ?_⟩) hHeld ?_ ?_; rotate_left
          · rintro w' ⟨s0, s1, s2, s3, s4, s5⟩
            go_simp
            with_reducible rfl
          rotate_left
          · simp only [Act.put, List.setIfInBounds_toArray, List.set_cons_zero, List.set_cons_succ, i64_w, i32_w]; rfl
          refine pure_ (i := 9) (N := (some 46)) (v := ?_) (a' := ?_) #[true, true, true, true, true, true, true, true, true, true, false, false, false, false, false, false] rfl rfl (by kernel_rfl) (fun _ _ _ h => h) (Or.inl ⟨by rfl, ?_⟩) ?_ ?_; rotate_left
          · intro w'
            go_simp
            with_reducible rfl
          rotate_left
          · simp only [Act.put, List.setIfInBounds_toArray, List.set_cons_zero, List.set_cons_succ, i64_w, i32_w]; rfl
          refine take_ (i := 10) (N := (some 47)) (v := ?_) (a' := ?_) #[true, true, true, true, true, true, true, true, true, true, true, false, false, false, false, false] rfl rfl (by kernel_rfl) (fun _ _ _ h => h) (Or.inl ⟨by rfl, ?_⟩) hHeld ?_ ?_; rotate_left
          · rintro w' ⟨s0, s1, s2, s3, s4, s5⟩
            go_simp
            with_reducible rfl
          rotate_left
          · simp only [Act.put, List.setIfInBounds_toArray, List.set_cons_zero, List.set_cons_succ, i64_w, i32_w]; rfl
          refine pure_ (i := 11) (N := (some 48)) (v := ?_) (a' := ?_) #[true, true, true, true, true, true, true, true, true, true, true, true, false, false, false, false] rfl rfl (by kernel_rfl) (fun _ _ _ h => h) (Or.inl ⟨by rfl, ?_⟩) ?_ ?_; rotate_left
          · intro w'
            go_simp
            with_reducible rfl
          rotate_left
          · simp only [Act.put, List.setIfInBounds_toArray, List.set_cons_zero, List.set_cons_succ, i64_w, i32_w]; rfl
          refine take_ (i := 12) (N := (some 49)) (v := ?_) (a' := ?_) #[true, true, true, true, true, true, true, true, true, true, true, true, true, false, false, false] rfl rfl (by kernel_rfl) (fun _ _ _ h => h) (Or.inl ⟨by rfl, ?_⟩) hHeld ?_ ?_; rotate_left
          · rintro w' ⟨s0, s1, s2, s3, s4, s5⟩
            go_simp
            with_reducible rfl
          rotate_left
          · simp only [Act.put, List.setIfInBounds_toArray, List.set_cons_zero, List.set_cons_succ, i64_w, i32_w]; rfl
          refine pure_ (i := 13) (N := (some 50)) (v := ?_) (a' := ?_) #[true, true, true, true, true, true, true, true, true, true, true, true, true, true, false, false] rfl rfl (by kernel_rfl) (fun _ _ _ h => h) (Or.inl ⟨by rfl, ?_⟩) ?_ ?_; rotate_left
          · intro w'
            go_simp
            with_reducible rfl
          rotate_left
          · simp only [Act.put, List.setIfInBounds_toArray, List.set_cons_zero, List.set_cons_succ, i64_w, i32_w]; rfl
          refine pure_ (i := 14) (N := (some 51)) (v := ?_) (a' := ?_) #[true, true, true, true, true, true, true, true, true, true, true, true, true, true, true, false] rfl rfl (by kernel_rfl) (fun _ _ _ h => h) (Or.inl ⟨by rfl, ?_⟩) ?_ ?_; rotate_left
          · intro w'
            go_simp
            with_reducible rfl
          rotate_left
          · simp only [Act.put, List.setIfInBounds_toArray, List.set_cons_zero, List.set_cons_succ, i64_w, i32_w]; rfl
          refine last_ (i := 15) (N := none) #[true, true, true, true, true, true, true, true, true, true, true, true, true, true, true, true] rfl rfl (by kernel_rfl) (by decide) (fun K hK => ?_); refine skip_ (w1 := ?_) (by rfl) rfl ?_ ?_; rotate_left
          · go_simp
            rfl
          refine hK.out _ _ ?_; clear hK K; refine done_ (by kernel_rfl) ?_; rw [show (if rd hs (comes l1 x.1).f1 < rd hs (comes l1 x.1).f0 then rd hs (comes l1 x.1).f1 else rd hs (comes l1 x.1).f0) = min (rd hs (comes l1 x.1).f0) (rd hs (comes l1 x.1).f1) by rw [Int.min_def]; split <;> split <;> omega]; refine (show KeepsFrom W7.heap.size W _ ∧ KpB w.heap.size Be W _ ∧ _ from ⟨hkf.out.trans ((KeepsOthers.setCell _ _ _).from _), ⟨hlow.out.setCell (p := ⟨g4, _, none⟩) HN.out _, ?_⟩, ⟨_, ?_, hput'.out⟩, ?_, ?_, ?_⟩)
          · rw [Below.heap_setCell _ _ _ _ hne.symm, hd0]
          · rw [List.map_append, List.foldlM_append, e1]; show (([x].map fun j : Fin l1.length => comes l1 j.1).foldlM dag_Urge.step hs) = _; simp only [List.map_cons, List.map_nil, List.foldlM_cons, List.foldlM_nil]; unfold dag_Urge.step; rw [if_pos ⟨of_eq_true r0, by rw [hR'.out.1]; exact of_eq_true r1, of_eq_true r2, by rw [hR'.out.1]; exact of_eq_true r3⟩]; rfl
          · rw [Below.heap_setCell _ _ _ _ hne45.symm, hd0]; exact h5'.out
          · rw [Below.heap_setCell _ _ _ _ hne.symm, hd0]; exact he'.out
          · exact (hB'.out.trans hlow.out).setCell (p := ⟨g4, _, none⟩) HN.out _
        case done =>
          rintro D xs W hD rfl ⟨⟨hs, e1, hR⟩, h5, he, hB⟩ hK; rw [upto_all, Hf.out] at e1; obtain rfl := Option.some.inj e1; have b5 := (bC_ h5 0).trans rfl; go_wp2; refine ⟨by simp, .inl ⟨_, _, rfl, run_takeDeferred hK, ?_⟩⟩
          have hne4 : D ≠ g4 := fun e => by
            obtain ⟨cs4, hc4⟩ := hR.cells; rw [← e, hK] at hc4
            cases hc4
          exact ⟨_, results_tmp rfl _ _ _, _, rfl, Kd.R_mono (Row.step (W1 := W.putObj D (.deferred none)) hR (World.putObj_heap_other (Ne.symm hne4))).2 (fun _ _ => trivial), hB.trans (belowK_b (w := w) (Nat.le_refl _) W D _ _ (by have := HB7.out.size; omega) hK rfl rfl)⟩
        case stop =>
          rintro D c pre W _ _ h _; exact h.elim
  · rw [if_neg hlen] at h; exact absurd h (by simp)
end
section
attribute [local go_sem] max2_int min2_int max_two min_two max_three min_three max_four min_four
attribute [local go_sem high] eqA24
end
section
theorem rd_nat (h : List Int) (i : Nat) (hi : i < h.length) : rd h (i : Int) = h[i] := by
  unfold rd; rw [Int.toNat_natCast, List.getD_eq_getElem?_getD, List.getElem?_eq_getElem hi]; rfl
theorem rd_set_same (h : List Int) (i : Nat) (v : Int) (hi : i < h.length) : rd (h.set i v) (i : Int) = v := by
  rw [rd_nat _ _ (by simpa using hi)]; simp
theorem rd_set_other (h : List Int) (i : Nat) (t : Int) (v : Int) (ht : 0 ≤ t) (hne : t ≠ i) : rd (h.set i v) t = rd h t := by
  obtain ⟨t, rfl⟩ := Int.eq_ofNat_of_zero_le ht; unfold rd; rw [Int.toNat_natCast, List.getD_eq_getElem?_getD, List.getD_eq_getElem?_getD, List.getElem?_set_ne (by omega)]
theorem edgesSeg_mem (l : List S24) (i : Nat) : ∀ (d j : Nat) (e : S51), e ∈ edgesSeg l i j d → e.f0 = (i : Int) ∧ ∃ t : Nat, e.f1 = (t : Int) ∧ j ≤ t ∧ t < j + d
  | 0, _, e, h => by simp [edgesSeg] at h
  | d + 1, j, e, h => by
    unfold edgesSeg at h; rcases List.mem_append.1 h with h | h
    · split at h
      · rw [List.mem_singleton] at h; subst h; exact ⟨rfl, j, rfl, Nat.le_refl _, by omega⟩
      · simp at h
    · obtain ⟨h1, t, h2, h3, h4⟩ := edgesSeg_mem l i d (j + 1) e h; exact ⟨h1, t, h2, by omega, by omega⟩
theorem edgesFrom_mem (l : List S24) (i : Nat) (e : S51) (h : e ∈ edgesFrom l i) : e.f0 = (i : Int) ∧ ∃ t : Nat, e.f1 = (t : Int) ∧ i < t ∧ t < l.length := by
  obtain ⟨h1, t, h2, h3, h4⟩ := edgesSeg_mem l i _ _ e h; exact ⟨h1, t, h2, by omega, by omega⟩
theorem edgesUp_filter (l : List S24) (i : Nat) : ∀ (d a : Nat), (edgesUp l a d).filter (fun e => e.f0 == (i : Int)) = if a ≤ i ∧ i < a + d then edgesFrom l i else []
  | 0, a => by rw [if_neg (by omega)]; rfl
  | d + 1, a => by
    rw [edgesUp_succ, List.filter_append, edgesUp_filter l i d (a + 1)]
    by_cases h : a = i
    · subst h; rw [if_neg (by omega), if_pos (by omega), List.append_nil]; apply List.filter_eq_self.2; intro e he; simp [(edgesFrom_mem l a e he).1]
    · have h1 : (edgesFrom l a).filter (fun e => e.f0 == (i : Int)) = [] := by
        apply List.filter_eq_nil_iff.2; intro e he; simp [(edgesFrom_mem l a e he).1]; omega
      rw [h1, List.nil_append]
      by_cases h2 : a + 1 ≤ i ∧ i < a + 1 + d
      · rw [if_pos h2, if_pos (by omega)]
      · rw [if_neg h2, if_neg (by omega)]
section
variable (m : Int → Int → Int) (val : S51 → Int → Int)
def gstep (h : List Int) (x : S51) : Option (List Int) :=
  if 0 ≤ x.f0 ∧ x.f0 < h.length ∧ 0 ≤ x.f1 ∧ x.f1 < h.length then some (h.set x.f0.toNat (m (rd h x.f0) (val x (rd h x.f1)))) else none
def gfold (h : List Int) (seg : List S51) (v : Int) : Int := seg.foldl (fun v e => m v (val e (rd h e.f1))) v
def gAt (init : List Int) (l : List S24) : Nat → List Int
  | 0 => init
  | d + 1 => (gAt init l d).set (l.length - (d + 1)) (gfold m val (gAt init l d) (edgesFrom l (l.length - (d + 1))) (rd (gAt init l d) ((l.length - (d + 1) : Nat) : Int)))
theorem gAt_succ (init : List Int) (l : List S24) (d : Nat) : gAt m val init l (d + 1) = (gAt m val init l d).set (l.length - (d + 1)) (gfold m val (gAt m val init l d) (edgesFrom l (l.length - (d + 1))) (rd (gAt m val init l d) ((l.length - (d + 1) : Nat) : Int))) := rfl
theorem gAt_len (init : List Int) (l : List S24) : ∀ d, (gAt m val init l d).length = init.length
  | 0 => rfl
  | d + 1 => by simp [gAt, gAt_len init l d]
theorem gfold_congr (h h' : List Int) : ∀ (seg : List S51) (v : Int), (∀ e ∈ seg, rd h e.f1 = rd h' e.f1) → gfold m val h seg v = gfold m val h' seg v
  | [], v, _ => rfl
  | e :: seg, v, he => by
    unfold gfold; rw [List.foldl_cons, List.foldl_cons, he e List.mem_cons_self]; exact gfold_congr h h' seg _ (fun e h => he e (List.mem_cons_of_mem _ h))
variable {m}
theorem gfold_push (hc : ∀ a b, m a b = m b a) (ha : ∀ a b c, m (m a b) c = m a (m b c)) (h : List Int) : ∀ (seg : List S51) (v a : Int), gfold m val h seg (m v a) = m (gfold m val h seg v) a
  | [], v, a => rfl
  | e :: seg, v, a => by
    unfold gfold; rw [List.foldl_cons, List.foldl_cons]; have := gfold_push hc ha h seg (m v (val e (rd h e.f1))) a; unfold gfold at this; rw [← this]; congr 1; rw [ha, hc a, ← ha]
theorem gfold_rev (hc : ∀ a b, m a b = m b a) (ha : ∀ a b c, m (m a b) c = m a (m b c)) (h : List Int) : ∀ (seg : List S51) (v : Int), gfold m val h seg.reverse v = gfold m val h seg v
  | [], v => rfl
  | e :: seg, v => by
    have h1 := gfold_rev hc ha h seg v; have h2 := gfold_push val hc ha h seg v (val e (rd h e.f1)); unfold gfold at *; rw [List.reverse_cons, List.foldl_append, List.foldl_cons, h1, List.foldl_cons, h2]; rfl
theorem group_steps (i : Nat) : ∀ (seg : List S51) (h : List Int), i < h.length → (∀ e ∈ seg, e.f0 = (i : Int) ∧ ∃ t : Nat, e.f1 = (t : Int) ∧ i < t ∧ t < h.length) →
    seg.foldlM (gstep m val) h = some (h.set i (gfold m val h seg (rd h (i : Int))))
  | [], h, hi, _ => by
    simp only [List.foldlM_nil]; unfold gfold; simp only [List.foldl_nil]
    rw [rd_nat _ _ hi, List.set_getElem_self]; rfl
  | e :: seg, h, hi, he => by
    obtain ⟨e0, t, e1, h1, h2⟩ := he e List.mem_cons_self
    have hs : gstep m val h e = some (h.set i (m (rd h (i : Int)) (val e (rd h e.f1)))) := by
      unfold gstep; rw [e0, if_pos ⟨by omega, by omega, by omega, by omega⟩, Int.toNat_natCast]
    rw [List.foldlM_cons, hs]; show List.foldlM (gstep m val) _ seg = _
    rw [group_steps i seg _ (by simpa using hi) (fun e' h' => by
      obtain ⟨a, b, c, d, f⟩ := he e' (List.mem_cons_of_mem _ h')
      exact ⟨a, b, c, d, by simpa using f⟩)]
    rw [List.set_set, rd_set_same _ _ _ hi]; congr 2; unfold gfold; rw [List.foldl_cons]
    exact gfold_congr m val _ h seg _ (fun e' h' => by
      obtain ⟨a, b, c, d, f⟩ := he e' (List.mem_cons_of_mem _ h')
      exact rd_set_other _ _ _ _ (by omega) (by omega))
theorem back_steps (hc : ∀ a b, m a b = m b a) (ha : ∀ a b c, m (m a b) c = m a (m b c)) (init : List Int) (l : List S24) (hl : init.length = l.length) : ∀ (d i : Nat), i + d = l.length → (edgesUp l i d).reverse.foldlM (gstep m val) init = some (gAt m val init l d)
  | 0, i, _ => rfl
  | d + 1, i, hi => by
    rw [edgesUp_succ, List.reverse_append, List.foldlM_append, back_steps hc ha init l hl d (i + 1) (by omega)]; show (edgesFrom l i).reverse.foldlM (gstep m val) (gAt m val init l d) = _; have hg := gAt_len m val init l d
    rw [group_steps val i _ _ (by omega) (fun e he => by
      obtain ⟨h0, t, h1, h2, h3⟩ := edgesFrom_mem l i e (List.mem_reverse.1 he)
      exact ⟨h0, t, h1, h2, by omega⟩), gfold_rev val hc ha]
    rw [gAt_succ, show l.length - (d + 1) = i by omega]
end
theorem mx_max (a b : Int) : mx a b = max a b := by unfold mx; rw [Int.max_def]; split <;> split <;> omega
def hval (e : S51) (x : Int) : Int := wrap64 (e.f2 + x)
def uval (_ : S51) (x : Int) : Int := x
theorem high_step : dag_High.step = gstep max hval := rfl
theorem urge_step : dag_Urge.step = gstep min uval := rfl
def lates (l : List S24) : List Int := l.map (fun x => lateOp x.f0)
def firsts (n : Nat) : Nat → List S24 → List Int
  | _, [] => []
  | i, x :: xs => (if effOp x.f0 = true then (i : Int) else (n : Int)) :: firsts n (i + 1) xs
def heights (l : List S24) : List Int := gAt max hval (lates l) l l.length
def urges (l : List S24) : List Int := gAt min uval (firsts l.length 0 l) l l.length
def okA (l : List S24) : Prop := ∀ x ∈ l, okI x = true
theorem okA_L {l : List S24} (h : okA l) : okL l := fun i hi => by rw [rd_at l i hi]; exact h _ (List.getElem_mem hi)
theorem high_init {k : Nat} (hk : 5 ≤ k) : ∀ l, okA l → dag_High.init k l = some (lates l)
  | [], _ => rfl
  | x :: xs, h => by
    have hx := okI_op (h x List.mem_cons_self); unfold dag_High.init lates; rw [late_eq hk _ hx.1 hx.2, high_init hk xs (fun y hy => h y (List.mem_cons_of_mem _ hy))]; rfl
theorem urge_init {k : Nat} (hk : 5 ≤ k) (n : Nat) : ∀ i l, okA l → dag_Urge.init k n i l = some (firsts n i l)
  | _, [], _ => rfl
  | i, x :: xs, h => by
    have hx := okI_op (h x List.mem_cons_self); unfold dag_Urge.init firsts; rw [eff_eq hk _ hx.1 hx.2, urge_init hk n (i + 1) xs (fun y hy => h y (List.mem_cons_of_mem _ hy))]; rfl
theorem firsts_len (n : Nat) : ∀ i l, (firsts n i l).length = l.length
  | _, [] => rfl
  | i, x :: xs => by simp [firsts, firsts_len n (i + 1) xs]
theorem high_eq {k : Nat} (hk : 5 ≤ k) (l : List S24) (hl : l.length ≤ 200) (h : okA l) : dag_High.f k l (edges l) = some (heights l) := by
  unfold dag_High.f heights edges; rw [if_pos (by omega), high_init hk l h, high_step]; exact back_steps hval (fun a b => Int.max_comm a b) (fun a b c => Int.max_assoc a b c) (lates l) l (by simp [lates]) l.length 0 (by omega)
theorem urge_eq {k : Nat} (hk : 5 ≤ k) (l : List S24) (hl : l.length ≤ 200) (h : okA l) : dag_Urge.f k l (edges l) = some (urges l) := by
  unfold dag_Urge.f urges edges; rw [if_pos (by omega), urge_init hk _ 0 l h, urge_step]; exact back_steps uval (fun a b => Int.min_comm a b) (fun a b c => Int.min_assoc a b c) (firsts l.length 0 l) l (firsts_len _ _ _) l.length 0 (by omega)
theorem rd51_at (E : List S51) (i : Nat) (h : i < E.length) : J51 E (i : Int) = E[i] := by
  unfold J51; rw [Int.toNat_natCast, List.getD_eq_getElem?_getD, List.getElem?_eq_getElem h]; rfl
theorem edges_len (l : List S24) : ∀ (d i : Nat), (edgesUp l i d).length ≤ d * l.length
  | 0, i => by simp [edgesUp]
  | d + 1, i => by
    have := edges_len l d (i + 1); have h2 := edgesSeg_len l i (l.length - (i + 1)) (i + 1); rw [edgesUp_succ, Nat.succ_mul]; unfold edgesFrom; rw [List.length_append]; omega
theorem edges_range (l : List S24) : ∀ (d a : Nat) (e : S51), e ∈ edgesUp l a d → ∃ i t : Nat, e.f0 = (i : Int) ∧ e.f1 = (t : Int) ∧ i < t ∧ t < l.length
  | 0, a, e, h => by simp [edgesUp] at h
  | d + 1, a, e, h => by
    rw [edgesUp_succ] at h; rcases List.mem_append.1 h with h | h
    · obtain ⟨h1, t, h2, h3, h4⟩ := edgesFrom_mem l a e h; exact ⟨a, t, h1, h2, h3, h4⟩
    · exact edges_range l d (a + 1) e h
end
section
section
variable (m : Int → Int → Int) (val : S51 → Int → Int)
end
theorem heights_len (l : List S24) : (heights l).length = l.length := by rw [heights, gAt_len]; simp [lates]
theorem urges_len (l : List S24) : (urges l).length = l.length := by rw [urges, gAt_len, firsts_len]
theorem edges_from (l : List S24) (e : S51) (he : e ∈ edges l) (i : Nat) (h0 : e.f0 = (i : Int)) : e ∈ edgesFrom l i := by
  have hf := edgesUp_filter l i l.length 0; obtain ⟨a, t, h1, h2, h3, h4⟩ := edges_range l l.length 0 e he; have : i < l.length := by omega
  rw [if_pos ⟨by omega, by omega⟩] at hf; rw [← hf, List.mem_filter]; exact ⟨he, by simpa using h0⟩
theorem from_edges (l : List S24) (e : S51) (i : Nat) (hi : i < l.length) (he : e ∈ edgesFrom l i) : e ∈ edges l := by
  have hf := edgesUp_filter l i l.length 0; rw [if_pos ⟨by omega, by omega⟩] at hf; rw [← hf, List.mem_filter] at he; exact he.1
theorem late_range (op : Int) : 1 ≤ lateOp op ∧ lateOp op ≤ 4 := by unfold lateOp; split <;> (try split) <;> (try split) <;> omega
theorem dist_le (x y : S24) : dist x y ≤ 4 := by
  have := late_range x.f0; unfold dist; simp only [mx_max]; split <;> split <;> (try split) <;> omega
theorem edgesSeg_dist (l : List S24) (i : Nat) : ∀ (d j : Nat) (e : S51), e ∈ edgesSeg l i j d → 0 ≤ e.f2 ∧ e.f2 ≤ 4
  | 0, j, e, h => by simp [edgesSeg] at h
  | d + 1, j, e, h => by
    unfold edgesSeg at h; rcases List.mem_append.1 h with h | h
    · split at h
      · rename_i hc
        simp only [List.mem_singleton] at h; subst h; exact ⟨hc, dist_le _ _⟩
      · simp at h
    · exact edgesSeg_dist l i d (j + 1) e h
theorem edges_dist (l : List S24) (e : S51) (he : e ∈ edges l) : 0 ≤ e.f2 ∧ e.f2 ≤ 4 := by
  obtain ⟨a, t, h1, _⟩ := edges_range l l.length 0 e he; exact edgesSeg_dist l a _ _ e (edges_from l e he a h1)
end
section
attribute [local go_sem] max2_int min2_int max_two min_two max_three min_three max_four min_four
mutual
def isa_May.j0 : Nat → Int → Int → Bool → Option (Bool)
  | 0, _, _, _ => none
  | k + 1, x0, x1, x15 => if x15 = true then (some false) else (if x0 = 0 then (some true) else (if x0 = 14 then (isa_May.j1 k x0 x1 x0 (x0 == 14)) else (if x0 = 15 then (isa_May.j1 k x0 x1 x0 (x0 == 15)) else (if x0 = 16 then (isa_May.j1 k x0 x1 x0 (x0 == 16)) else (if x0 = 17 then (isa_May.j1 k x0 x1 x0 (x0 == 17)) else (isa_May.j1 k x0 x1 x0 (x0 == 20)))))))
def isa_May.j1 : Nat → Int → Int → Int → Bool → Option (Bool)
  | 0, _, _, _, _ => none
  | k + 1, x0, x1, x16, x19 => if x19 = true then (some (x1 == 3)) else (if x16 = 18 then (isa_May.j2 k x0 x1 x16 (x16 == 18)) else (if x16 = 19 then (isa_May.j2 k x0 x1 x16 (x16 == 19)) else (isa_May.j2 k x0 x1 x16 (x16 == 21))))
def isa_May.j2 : Nat → Int → Int → Int → Bool → Option (Bool)
  | 0, _, _, _, _ => none
  | k + 1, x0, x1, x16, x27 => if x27 = true then (some (x1 == 1)) else (if x16 = 24 then (isa_May.j3 k x0 x1 (x16 == 24)) else (if x16 = 25 then (isa_May.j3 k x0 x1 (x16 == 25)) else (if x16 = 26 then (isa_May.j3 k x0 x1 (x16 == 26)) else (isa_May.j3 k x0 x1 (x16 == 27)))))
def isa_May.j3 : Nat → Int → Int → Bool → Option (Bool)
  | 0, _, _, _ => none
  | k + 1, x0, x1, x33 => if x33 = true then (some (x1 == 2)) else (if x1 = 0 then (some true) else (if x1 = 1 then ((isa_Ends.f x0).bind fun t577 => (some (!t577))) else (some false)))
end
def isa_May.f (k : Nat) (a0 : Int) (a1 : Int) : Option (Bool) := (isa_Is.f a0).bind fun t576 => (if t576 = true then (if a1 < 0 then (isa_May.j0 k a0 a1 true) else (isa_May.j0 k a0 a1 (decide (a1 > 3)))) else (isa_May.j0 k a0 a1 true))
theorem isa_May.mono_l : ∀ k, (∀ y0 y1 y2, LeO (isa_May.j0 k y0 y1 y2) (isa_May.j0 (k + 1) y0 y1 y2)) ∧ (∀ y0 y1 y2 y3, LeO (isa_May.j1 k y0 y1 y2 y3) (isa_May.j1 (k + 1) y0 y1 y2 y3)) ∧ (∀ y0 y1 y2 y3, LeO (isa_May.j2 k y0 y1 y2 y3) (isa_May.j2 (k + 1) y0 y1 y2 y3)) ∧ (∀ y0 y1 y2, LeO (isa_May.j3 k y0 y1 y2) (isa_May.j3 (k + 1) y0 y1 y2))
  | 0 => ⟨fun _ _ _ r h => by simp [isa_May.j0] at h, fun _ _ _ _ r h => by simp [isa_May.j1] at h, fun _ _ _ _ r h => by simp [isa_May.j2] at h, fun _ _ _ r h => by simp [isa_May.j3] at h⟩
  | k + 1 => by
    obtain ⟨ih0, ih1, ih2, ih3⟩ := isa_May.mono_l k; refine ⟨?_, ?_, ?_, ?_⟩
    · intro y0 y1 y2; unfold isa_May.j0
      repeat' first
      | (with_reducible exact ih0 _ _ _)
      | (with_reducible exact ih1 _ _ _ _)
      | (with_reducible exact ih2 _ _ _ _)
      | (with_reducible exact ih3 _ _ _)
      | (with_reducible exact LeO.refl _)
      | (with_reducible exact LeO.none _)
      | (with_reducible refine LeO.ite ?_ ?_)
      | (with_reducible refine LeO.bind ?_ (fun _ => ?_))
      | exact LeO.none _
      | refine LeO.ite ?_ ?_
      | refine LeO.bind ?_ (fun _ => ?_)
    · intro y0 y1 y2 y3; unfold isa_May.j1
      repeat' first
      | (with_reducible exact ih0 _ _ _)
      | (with_reducible exact ih1 _ _ _ _)
      | (with_reducible exact ih2 _ _ _ _)
      | (with_reducible exact ih3 _ _ _)
      | (with_reducible exact LeO.refl _)
      | (with_reducible exact LeO.none _)
      | (with_reducible refine LeO.ite ?_ ?_)
      | (with_reducible refine LeO.bind ?_ (fun _ => ?_))
      | exact LeO.none _
      | refine LeO.ite ?_ ?_
      | refine LeO.bind ?_ (fun _ => ?_)
    · intro y0 y1 y2 y3; unfold isa_May.j2
      repeat' first
      | (with_reducible exact ih0 _ _ _)
      | (with_reducible exact ih1 _ _ _ _)
      | (with_reducible exact ih2 _ _ _ _)
      | (with_reducible exact ih3 _ _ _)
      | (with_reducible exact LeO.refl _)
      | (with_reducible exact LeO.none _)
      | (with_reducible refine LeO.ite ?_ ?_)
      | (with_reducible refine LeO.bind ?_ (fun _ => ?_))
      | exact LeO.none _
      | refine LeO.ite ?_ ?_
      | refine LeO.bind ?_ (fun _ => ?_)
    · intro y0 y1 y2; unfold isa_May.j3
      repeat' first
      | (with_reducible exact ih0 _ _ _)
      | (with_reducible exact ih1 _ _ _ _)
      | (with_reducible exact ih2 _ _ _ _)
      | (with_reducible exact ih3 _ _ _)
      | (with_reducible exact LeO.refl _)
      | (with_reducible exact LeO.none _)
      | (with_reducible refine LeO.ite ?_ ?_)
      | (with_reducible refine LeO.bind ?_ (fun _ => ?_))
      | exact LeO.none _
      | refine LeO.ite ?_ ?_
      | refine LeO.bind ?_ (fun _ => ?_)
theorem isa_May.mono : ∀ a0 a1 k, LeO (isa_May.f k a0 a1) (isa_May.f (k + 1) a0 a1) := by
 intro a0 a1 k; obtain ⟨ih0, ih1, ih2, ih3⟩ := isa_May.mono_l k; unfold isa_May.f
 repeat' first
  | (with_reducible exact ih0 _ _ _)
  | (with_reducible exact ih1 _ _ _ _)
  | (with_reducible exact ih2 _ _ _ _)
  | (with_reducible exact ih3 _ _ _)
  | (with_reducible exact LeO.refl _)
  | (with_reducible exact LeO.none _)
  | (with_reducible refine LeO.ite ?_ ?_)
  | (with_reducible refine LeO.bind ?_ (fun _ => ?_))
  | exact LeO.none _
  | refine LeO.ite ?_ ?_
  | refine LeO.bind ?_ (fun _ => ?_)
theorem isa_May.calls (k : Nat) (a0 : Int) (a1 : Int) (r : Bool) (w : World) (h : isa_May.f k a0 a1 = some r) :
    Calls Try.prog 87 #[.int .i64 a0, .int .i64 a1] w fun e w' => e = .returned (.bool r) ∧ Dr_ w w' := by
 have H : ((isa_Is.f a0).bind fun t576 => (if t576 = true then (if a1 < 0 then (isa_May.j0 k a0 a1 true) else (isa_May.j0 k a0 a1 (decide (a1 > 3)))) else (isa_May.j0 k a0 a1 true))) = some r := h; clear h; have HC3 := aM_ H; clear H; go_enter Try.func87, Try.ntmps87
 go_upto_region 1 with (fail)
 go_cut [15] (fun v15 wc => ∃ (kq : Nat) (x15_2 : Bool), v15 = .bool x15_2 ∧ As_ (isa_May.j0 kq a0 a1 x15_2 = some r) ∧ As_ (kq ≤ k) ∧ Dr_ w wc)
 case first =>
  have H := HC3.out; clear HC3; obtain ⟨t576, A4, H⟩ := oB_ H
  by_cases c5 : t576 = true
  ·subst c5; rw [if_pos rfl] at H
   by_cases c6 : a1 < 0
   ·rw [if_pos c6] at H; have c6b0 := dE_ c6; clear c6
    (first | rw [c6b0] | (simp only [i64_w, i32_w]; rw [c6b0]) | skip)
    replace H := aM_ H
    go_wp2_with (first | ((with_reducible refine gC_ (f := 96) rfl ?_); refine gL_ (some 6) Try.func96 #[.int .i64 a0] rfl ?_; (with_reducible refine (isa_Is.calls a0 true _ A4.out).mono ?_); rintro e w' ⟨rfl, ⟨nd, rfl⟩⟩; refine ⟨_, rfl, ?_⟩))
    go_meet
    case rel => exact ⟨_, (true), eQ_, H, ⟨by first | omega | exact Nat.le_refl _⟩, dR_⟩
   rw [if_neg c6] at H; have c6b0 := dF_ c6; clear c6
   (first | rw [c6b0] | (simp only [i64_w, i32_w]; rw [c6b0]) | skip)
   replace H := aM_ H
   go_wp2_with (first | ((with_reducible refine gC_ (f := 96) rfl ?_); refine gL_ (some 6) Try.func96 #[.int .i64 a0] rfl ?_; (with_reducible refine (isa_Is.calls a0 true _ A4.out).mono ?_); rintro e w' ⟨rfl, ⟨nd, rfl⟩⟩; refine ⟨_, rfl, ?_⟩))
   go_meet
   case rel => exact ⟨_, (decide (a1 > 3)), eQ_, H, ⟨by first | omega | exact Nat.le_refl _⟩, dR_⟩
  replace c5 := eF_ c5; subst c5; rw [if_neg Bool.false_ne_true] at H; replace H := aM_ H
  go_wp2_with (first | ((with_reducible refine gC_ (f := 96) rfl ?_); refine gL_ (some 6) Try.func96 #[.int .i64 a0] rfl ?_; (with_reducible refine (isa_Is.calls a0 false _ A4.out).mono ?_); rintro e w' ⟨rfl, ⟨nd, rfl⟩⟩; refine ⟨_, rfl, ?_⟩))
  go_meet
  case rel => exact ⟨_, (true), eQ_, H, ⟨by first | omega | exact Nat.le_refl _⟩, dR_⟩
 case rest =>
  clear HC3; obtain ⟨kq, x15_2, rfl, HA, HJ2, ⟨mc2, rfl⟩⟩ := hcut
  cases kq with
  | zero => exact absurd HA.out (by simp [isa_May.j0])
  | succ kj2 =>
   have H := HA.out; clear HA; simp only [isa_May.j0] at H
   by_cases c7 : x15_2 = true
   ·subst c7; rw [if_pos rfl] at H; obtain rfl := oI_ H; go_wp2; go_ret; exact ⟨eQ_, dR_⟩
   replace c7 := eF_ c7; subst c7; rw [if_neg Bool.false_ne_true] at H
   by_cases c8 : a0 = 0
   ·rw [if_pos c8] at H; have c8b0 := bH_ c8; have c8b1 := bF_ c8; clear c8; obtain rfl := oI_ H; go_wp2; go_ret; exact ⟨eQ_, dR_⟩
   rw [if_neg c8] at H; have c8b0 := bE_ c8; have c8b1 := bG_ c8; have HC9 := aM_ H; clear H
   go_upto_if 19 with (fail)
   go_cut [19] (fun v19 wc => ∃ (kq : Nat) (x19_8 : Bool), v19 = .bool x19_8 ∧ As_ (isa_May.j1 kq a0 a1 a0 x19_8 = some r) ∧ As_ (kq ≤ kj2) ∧ Dr_ w wc)
   case first =>
    have H := HC9.out; clear HC9
    by_cases c10 : a0 = 14
    ·rw [if_pos c10] at H; have c10b0 := bH_ c10; have c10b1 := bF_ c10; clear c10
     (first | rw [c10b0] | (simp only [i64_w, i32_w]; rw [c10b0]) | skip)
     replace H := aM_ H; go_wp2
     go_meet
     case rel => exact ⟨_, ((a0 == 14)), eQ_, H, ⟨by have := HJ2.out; first | omega | exact Nat.le_refl _⟩, dR_⟩
    rw [if_neg c10] at H; have c10b0 := bE_ c10; have c10b1 := bG_ c10
    (first | rw [c10b0] | (simp only [i64_w, i32_w]; rw [c10b0]) | skip)
    by_cases c11 : a0 = 15
    ·rw [if_pos c11] at H; have c11b0 := bH_ c11; have c11b1 := bF_ c11; clear c11; replace H := aM_ H; go_wp2
     go_meet
     case rel => exact ⟨_, ((a0 == 15)), eQ_, H, ⟨by have := HJ2.out; first | omega | exact Nat.le_refl _⟩, dR_⟩
    rw [if_neg c11] at H; have c11b0 := bE_ c11; have c11b1 := bG_ c11
    by_cases c12 : a0 = 16
    ·rw [if_pos c12] at H; have c12b0 := bH_ c12; have c12b1 := bF_ c12; clear c12; replace H := aM_ H; go_wp2
     go_meet
     case rel => exact ⟨_, ((a0 == 16)), eQ_, H, ⟨by have := HJ2.out; first | omega | exact Nat.le_refl _⟩, dR_⟩
    rw [if_neg c12] at H; have c12b0 := bE_ c12; have c12b1 := bG_ c12
    by_cases c13 : a0 = 17
    ·rw [if_pos c13] at H; have c13b0 := bH_ c13; have c13b1 := bF_ c13; clear c13; replace H := aM_ H; go_wp2
     go_meet
     case rel => exact ⟨_, ((a0 == 17)), eQ_, H, ⟨by have := HJ2.out; first | omega | exact Nat.le_refl _⟩, dR_⟩
    rw [if_neg c13] at H; have c13b0 := bE_ c13; have c13b1 := bG_ c13; replace H := aM_ H; go_wp2
    go_meet
    case rel => exact ⟨_, ((a0 == 20)), eQ_, H, ⟨by have := HJ2.out; first | omega | exact Nat.le_refl _⟩, dR_⟩
   case rest =>
    clear HC9; obtain ⟨kq, x19_8, rfl, HA, HJ8, ⟨mc8, rfl⟩⟩ := hcut
    cases kq with
    | zero => exact absurd HA.out (by simp [isa_May.j1])
    | succ kj8 =>
     have H := HA.out; clear HA; simp only [isa_May.j1] at H
     by_cases c14 : x19_8 = true
     ·subst c14; rw [if_pos rfl] at H; obtain rfl := oI_ H; go_wp2; go_ret; exact ⟨eQ_, dR_⟩
     replace c14 := eF_ c14; subst c14; rw [if_neg Bool.false_ne_true] at H; have HC15 := aM_ H; clear H
     go_upto_if 27 with (fail)
     go_cut [27] (fun v27 wc => ∃ (kq : Nat) (x27_14 : Bool), v27 = .bool x27_14 ∧ As_ (isa_May.j2 kq a0 a1 a0 x27_14 = some r) ∧ As_ (kq ≤ kj8) ∧ Dr_ w wc)
     case first =>
      have H := HC15.out; clear HC15
      by_cases c16 : a0 = 18
      ·rw [if_pos c16] at H; have c16b0 := bH_ c16; have c16b1 := bF_ c16; clear c16
       (first | rw [c16b0] | (simp only [i64_w, i32_w]; rw [c16b0]) | skip)
       replace H := aM_ H; go_wp2
       go_meet
       case rel => exact ⟨_, ((a0 == 18)), eQ_, H, ⟨by have := HJ2.out; have := HJ8.out; first | omega | exact Nat.le_refl _⟩, dR_⟩
      rw [if_neg c16] at H; have c16b0 := bE_ c16; have c16b1 := bG_ c16
      (first | rw [c16b0] | (simp only [i64_w, i32_w]; rw [c16b0]) | skip)
      by_cases c17 : a0 = 19
      ·rw [if_pos c17] at H; have c17b0 := bH_ c17; have c17b1 := bF_ c17; clear c17; replace H := aM_ H; go_wp2
       go_meet
       case rel => exact ⟨_, ((a0 == 19)), eQ_, H, ⟨by have := HJ2.out; have := HJ8.out; first | omega | exact Nat.le_refl _⟩, dR_⟩
      rw [if_neg c17] at H; have c17b0 := bE_ c17; have c17b1 := bG_ c17; replace H := aM_ H; go_wp2
      go_meet
      case rel => exact ⟨_, ((a0 == 21)), eQ_, H, ⟨by have := HJ2.out; have := HJ8.out; first | omega | exact Nat.le_refl _⟩, dR_⟩
     case rest =>
      clear HC15; obtain ⟨kq, x27_14, rfl, HA, HJ14, ⟨mc14, rfl⟩⟩ := hcut
      cases kq with
      | zero => exact absurd HA.out (by simp [isa_May.j2])
      | succ kj14 =>
       have H := HA.out; clear HA; simp only [isa_May.j2] at H
       by_cases c18 : x27_14 = true
       ·subst c18; rw [if_pos rfl] at H; obtain rfl := oI_ H; go_wp2; go_ret; exact ⟨eQ_, dR_⟩
       replace c18 := eF_ c18; subst c18; rw [if_neg Bool.false_ne_true] at H; have HC19 := aM_ H; clear H
       go_upto_if 33 with (fail)
       go_cut [33] (fun v33 wc => ∃ (kq : Nat) (x33_18 : Bool), v33 = .bool x33_18 ∧ As_ (isa_May.j3 kq a0 a1 x33_18 = some r) ∧ As_ (kq ≤ kj14) ∧ Dr_ w wc)
       case first =>
        have H := HC19.out; clear HC19
        by_cases c20 : a0 = 24
        ·rw [if_pos c20] at H; have c20b0 := bH_ c20; have c20b1 := bF_ c20; clear c20
         (first | rw [c20b0] | (simp only [i64_w, i32_w]; rw [c20b0]) | skip)
         replace H := aM_ H; go_wp2
         go_meet
         case rel => exact ⟨_, ((a0 == 24)), eQ_, H, ⟨by have := HJ2.out; have := HJ8.out; have := HJ14.out; first | omega | exact Nat.le_refl _⟩, dR_⟩
        rw [if_neg c20] at H; have c20b0 := bE_ c20; have c20b1 := bG_ c20
        (first | rw [c20b0] | (simp only [i64_w, i32_w]; rw [c20b0]) | skip)
        by_cases c21 : a0 = 25
        ·rw [if_pos c21] at H; have c21b0 := bH_ c21; have c21b1 := bF_ c21; clear c21; replace H := aM_ H; go_wp2
         go_meet
         case rel => exact ⟨_, ((a0 == 25)), eQ_, H, ⟨by have := HJ2.out; have := HJ8.out; have := HJ14.out; first | omega | exact Nat.le_refl _⟩, dR_⟩
        rw [if_neg c21] at H; have c21b0 := bE_ c21; have c21b1 := bG_ c21
        by_cases c22 : a0 = 26
        ·rw [if_pos c22] at H; have c22b0 := bH_ c22; have c22b1 := bF_ c22; clear c22; replace H := aM_ H; go_wp2
         go_meet
         case rel => exact ⟨_, ((a0 == 26)), eQ_, H, ⟨by have := HJ2.out; have := HJ8.out; have := HJ14.out; first | omega | exact Nat.le_refl _⟩, dR_⟩
        rw [if_neg c22] at H; have c22b0 := bE_ c22; have c22b1 := bG_ c22; replace H := aM_ H; go_wp2
        go_meet
        case rel => exact ⟨_, ((a0 == 27)), eQ_, H, ⟨by have := HJ2.out; have := HJ8.out; have := HJ14.out; first | omega | exact Nat.le_refl _⟩, dR_⟩
       case rest =>
        clear HC19; obtain ⟨kq, x33_18, rfl, HA, HJ18, ⟨mc18, rfl⟩⟩ := hcut
        cases kq with
        | zero => exact absurd HA.out (by simp [isa_May.j3])
        | succ kj18 =>
         have H := HA.out; clear HA; simp only [isa_May.j3] at H
         by_cases c23 : x33_18 = true
         ·subst c23; rw [if_pos rfl] at H; obtain rfl := oI_ H; go_wp2; go_ret; exact ⟨eQ_, dR_⟩
         replace c23 := eF_ c23; subst c23; rw [if_neg Bool.false_ne_true] at H
         by_cases c24 : a1 = 0
         ·rw [if_pos c24] at H; have c24b0 := bH_ c24; have c24b1 := bF_ c24; clear c24; obtain rfl := oI_ H; go_wp2; go_ret; exact ⟨eQ_, dR_⟩
         rw [if_neg c24] at H; have c24b0 := bE_ c24; have c24b1 := bG_ c24
         by_cases c25 : a1 = 1
         ·rw [if_pos c25] at H; have c25b0 := bH_ c25; have c25b1 := bF_ c25; clear c25; obtain ⟨t577, A26, H⟩ := oB_ H; obtain rfl := oI_ H
          go_wp2_with (first | (go_at_call 64; (with_reducible refine (isa_Ends.calls a0 t577 _ A26.out).mono ?_); rintro e w' ⟨rfl, ⟨nd, rfl⟩⟩))
          go_ret; exact ⟨eQ_, dR_⟩
         rw [if_neg c25] at H; have c25b0 := bE_ c25; have c25b1 := bG_ c25; obtain rfl := oI_ H; go_wp2; go_ret; exact ⟨eQ_, dR_⟩
def IsS102 (w0 W : World) (g : Nat) (f0 : List (S24)) (f1 : List (List (S51))) (f2 : List Int) (f3 : List Int) (f4 : List Int) (f5 : List Int) (f6 : Int) : Prop := ∃ A0 c0, ∃ A1 c1, ∃ A2 c2, ∃ A3 c3, ∃ A4 c4, ∃ A5 c5, W.heap[g]? = some (.cells #[.slice A0 f0.length c0, .slice A1 f1.length c1, .slice A2 f2.length c2, .slice A3 f3.length c3, .slice A4 f4.length c4, .slice A5 f5.length c5, .int .i64 f6] 102 (0, 0)) ∧ w0.heap.size ≤ g ∧ Kd.C k24 w0 A0 f0.length f0 ∧ Kd.C (Kd.slice 51 k51) w0 A1 f1.length f1 ∧ Kd.C (Kd.int .i64) w0 A2 f2.length f2 ∧ Kd.C (Kd.int .i64) w0 A3 f3.length f3 ∧ Kd.C (Kd.int .i64) w0 A4 f4.length f4 ∧ Kd.C (Kd.int .i64) w0 A5 f5.length f5
theorem IsS102.grown {w0 W : World} {g : Nat} {f0 : List (S24)} {f1 : List (List (S51))} {f2 : List Int} {f3 : List Int} {f4 : List Int} {f5 : List Int} {f6 : Int} {W1 : World} {row : Option Nat} (h : IsS102 w0 W g f0 f1 f2 f3 f4 f5 f6) (hw : W.grownBy W1 row) (hne : some g ≠ row) : IsS102 w0 W1 g f0 f1 f2 f3 f4 f5 f6 := by
 obtain ⟨A0, c0, A1, c1, A2, c2, A3, c3, A4, c4, A5, c5, hb, hg, hr0, hr1, hr2, hr3, hr4, hr5⟩ := h; exact ⟨A0, c0, A1, c1, A2, c2, A3, c3, A4, c4, A5, c5, blk_grown hb hw hne, hg, hr0, hr1, hr2, hr3, hr4, hr5⟩
theorem IsS102.kept {w0 W : World} {g : Nat} {f0 : List (S24)} {f1 : List (List (S51))} {f2 : List Int} {f3 : List Int} {f4 : List Int} {f5 : List Int} {f6 : Int} {W1 : World} {S : Nat → Prop} (h : IsS102 w0 W g f0 f1 f2 f3 f4 f5 f6) (hk : Kept W W1 S) (hne : ¬ S g) : IsS102 w0 W1 g f0 f1 f2 f3 f4 f5 f6 := by
 obtain ⟨A0, c0, A1, c1, A2, c2, A3, c3, A4, c4, A5, c5, hb, hg, hr0, hr1, hr2, hr3, hr4, hr5⟩ := h; exact ⟨A0, c0, A1, c1, A2, c2, A3, c3, A4, c4, A5, c5, blk_kept hb hk hne, hg, hr0, hr1, hr2, hr3, hr4, hr5⟩
theorem IsS102.below {w0 W : World} {g : Nat} {f0 : List (S24)} {f1 : List (List (S51))} {f2 : List Int} {f3 : List Int} {f4 : List Int} {f5 : List Int} {f6 : Int} {W1 : World} (h : IsS102 w0 W g f0 f1 f2 f3 f4 f5 f6) (hw : Below W.heap.size W W1) : IsS102 w0 W1 g f0 f1 f2 f3 f4 f5 f6 := h.grown (grown_of_below hw none) (by simp)
theorem IsS102.alloc {w0 W : World} {g : Nat} {f0 : List (S24)} {f1 : List (List (S51))} {f2 : List Int} {f3 : List Int} {f4 : List Int} {f5 : List Int} {f6 : Int} (h : IsS102 w0 W g f0 f1 f2 f3 f4 f5 f6) (o : Obj) : IsS102 w0 (W.alloc o) g f0 f1 f2 f3 f4 f5 f6 := h.below (bA_ (Below.refl _ _) o)
theorem IsS102.drewN {w0 W : World} {g : Nat} {f0 : List (S24)} {f1 : List (List (S51))} {f2 : List Int} {f3 : List Int} {f4 : List Int} {f5 : List Int} {f6 : Int} (h : IsS102 w0 W g f0 f1 f2 f3 f4 f5 f6) (m : Nat) : IsS102 w0 (W.drewN m) g f0 f1 f2 f3 f4 f5 f6 := h
theorem IsS102.drew {w0 W : World} {g : Nat} {f0 : List (S24)} {f1 : List (List (S51))} {f2 : List Int} {f3 : List Int} {f4 : List Int} {f5 : List Int} {f6 : Int} (h : IsS102 w0 W g f0 f1 f2 f3 f4 f5 f6) : IsS102 w0 W.drew g f0 f1 f2 f3 f4 f5 f6 := h
theorem IsS102.at_ {w0 W : World} {g : Nat} {f0 : List (S24)} {f1 : List (List (S51))} {f2 : List Int} {f3 : List Int} {f4 : List Int} {f5 : List Int} {f6 : Int} {w' : World} {m : Nat} (hq : W.drewN m = w') (h : IsS102 w0 W g f0 f1 f2 f3 f4 f5 f6) : IsS102 w0 w' g f0 f1 f2 f3 f4 f5 f6 := by subst hq; exact IsS102.drewN h m
theorem IsS102.apart {w0 W : World} {g : Nat} {f0 : List (S24)} {f1 : List (List (S51))} {f2 : List Int} {f3 : List Int} {f4 : List Int} {f5 : List Int} {f6 : Int} {α : Type} {d : Kd α} {e : Nat} {base : Nat} {ok : Nat → Prop} {v : Value} {xs : List α} (h : IsS102 w0 W g f0 f1 f2 f3 f4 f5 f6) (ho : d.R e W base ok v xs) (ht : ∀ q, q ∈ e :: d.E → q ≠ 102) : d.R e W base (fun k => ok k ∧ k ≠ g) v xs := by
 obtain ⟨A0, c0, A1, c1, A2, c2, A3, c3, A4, c4, A5, c5, hb, hg, hr0, hr1, hr2, hr3, hr4, hr5⟩ := h; exact Kd.R_types ho hb ht
theorem IsS102.own_ne {w0 W : World} {g : Nat} {f0 : List (S24)} {f1 : List (List (S51))} {f2 : List Int} {f3 : List Int} {f4 : List Int} {f5 : List Int} {f6 : Int} {α : Type} {d : Kd α} {e : Nat} {base : Nat} {ok : Nat → Prop} {v : Value} {xs : List α} (h : IsS102 w0 W g f0 f1 f2 f3 f4 f5 f6) (ho : d.R e W base ok v xs) (ht : e ≠ 102) : some g ≠ v.ownBlock := by
 obtain ⟨A0, c0, A1, c1, A2, c2, A3, c3, A4, c4, A5, c5, hb, hg, hr0, hr1, hr2, hr3, hr4, hr5⟩ := h; exact Kd.R_ne ho hb ht
theorem IsS102.lt {w0 W : World} {g : Nat} {f0 : List (S24)} {f1 : List (List (S51))} {f2 : List Int} {f3 : List Int} {f4 : List Int} {f5 : List Int} {f6 : Int} (h : IsS102 w0 W g f0 f1 f2 f3 f4 f5 f6) : g < W.heap.size := by
 obtain ⟨A0, c0, A1, c1, A2, c2, A3, c3, A4, c4, A5, c5, hb, hg, hr0, hr1, hr2, hr3, hr4, hr5⟩ := h; exact blk_lt hb
theorem IsS102.ge {w0 W : World} {g : Nat} {f0 : List (S24)} {f1 : List (List (S51))} {f2 : List Int} {f3 : List Int} {f4 : List Int} {f5 : List Int} {f6 : Int} (h : IsS102 w0 W g f0 f1 f2 f3 f4 f5 f6) : w0.heap.size ≤ g := by
 obtain ⟨A0, c0, A1, c1, A2, c2, A3, c3, A4, c4, A5, c5, hb, hg, hr0, hr1, hr2, hr3, hr4, hr5⟩ := h; exact hg
theorem IsS102.new (w0 W : World) (A0 : Option Addr) (c0 : Nat) (A1 : Option Addr) (c1 : Nat) (A2 : Option Addr) (c2 : Nat) (A3 : Option Addr) (c3 : Nat) (A4 : Option Addr) (c4 : Nat) (A5 : Option Addr) (c5 : Nat) (f0 : List (S24)) (f1 : List (List (S51))) (f2 : List Int) (f3 : List Int) (f4 : List Int) (f5 : List Int) (f6 : Int) (hB : Below w0.heap.size w0 W) (hr0 : Kd.C k24 w0 A0 f0.length f0) (hr1 : Kd.C (Kd.slice 51 k51) w0 A1 f1.length f1) (hr2 : Kd.C (Kd.int .i64) w0 A2 f2.length f2) (hr3 : Kd.C (Kd.int .i64) w0 A3 f3.length f3) (hr4 : Kd.C (Kd.int .i64) w0 A4 f4.length f4) (hr5 : Kd.C (Kd.int .i64) w0 A5 f5.length f5) : IsS102 w0 (W.alloc (.cells #[.slice A0 f0.length c0, .slice A1 f1.length c1, .slice A2 f2.length c2, .slice A3 f3.length c3, .slice A4 f4.length c4, .slice A5 f5.length c5, .int .i64 f6] 102)) W.heap.size f0 f1 f2 f3 f4 f5 f6 := ⟨A0, c0, A1, c1, A2, c2, A3, c3, A4, c4, A5, c5, by simpa using heap_alloc_new W _, hB.size, hr0, hr1, hr2, hr3, hr4, hr5⟩
end
end Go.Proofs.Ytibfkkjkahpobaa.PDag
