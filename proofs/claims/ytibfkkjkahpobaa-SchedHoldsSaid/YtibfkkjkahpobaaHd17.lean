import Derived.Test.YtibfkkjkahpobaaHd15
import Derived.Test.YtibfkkjkahpobaaHd16
set_option linter.unusedVariables false
set_option linter.unusedSimpArgs false
set_option maxHeartbeats 8000000
set_option maxRecDepth 100000
open Go.RowKit Go.Proofs.YtibfkkjkahpobaaW.PrintWords Go.Proofs.YtibfkkjkahpobaaW.PrintLast Go.Proofs.YtibfkkjkahpobaaW.PrintMore
namespace Go.Proofs.Ytibfkkjkahpobaa.PDag
section
open Go.RowKit Go.Shelf Go.Proofs.YtibfkkjkahpobaaW.PrintWords Go.Proofs.YtibfkkjkahpobaaW.PrintLast Go.Proofs.YtibfkkjkahpobaaW.PrintMore
attribute [local go_sem] Oper.semAt_some
def Row (base : Nat) (W : World) (g cap n : Nat) (hs : List Int) : Prop := hs.length = n ∧ (Kd.int .i64).R 3 W base (fun k => k = g) (.slice (some ⟨g, 0, none⟩) n cap) hs
theorem Row.step {base : Nat} {W W1 : World} {g cap n : Nat} {hs : List Int} (h : Row base W g cap n hs) (hm : W1.heap[g]? = W.heap[g]?) : Row base W1 g cap n hs :=
  ⟨h.1, Kd.R_step h.2 (fun k hk _ => by subst hk; exact hm)⟩
theorem Row.lt {base : Nat} {W : World} {g cap n : Nat} {hs : List Int} (h : Row base W g cap n hs) : g < W.heap.size := Kd.R_lt h.2 g rfl
theorem Row.ge {base : Nat} {W : World} {g cap n : Nat} {hs : List Int} (h : Row base W g cap n hs) : base ≤ g := Kd.R_base h.2 g rfl
theorem Row.cell {base : Nat} {W : World} {g cap n : Nat} {hs : List Int} (h : Row base W g cap n hs) (i : Int) (h0 : 0 ≤ i) (h1 : i < n) : W.cell? ⟨g, i.toNat, none⟩ = some (.int .i64 (rd hs i)) ∧ W.frozen? ⟨g, i.toNat, none⟩ = false := by
  obtain ⟨rfl, h2⟩ := h; exact Kd.R_cell 0 h2 i h0 h1
theorem Row.put {base : Nat} {W : World} {g cap n : Nat} {hs : List Int} (h : Row base W g cap n hs) (i x : Int) : Row base (W.setCell ⟨g, i.toNat, none⟩ (.int .i64 x)) g cap n (hs.set i.toNat x) := by
  obtain ⟨rfl, h2⟩ := h; exact ⟨by simp, (Kd.R_put h2 i x).1⟩
theorem Row.putN {base : Nat} {W : World} {g cap n : Nat} {hs : List Int} (h : Row base W g cap n hs) (j : Nat) (x : Int) : Row base (W.setCell ⟨g, j, none⟩ (.int .i64 x)) g cap n (hs.set j x) := by
  have h_ := h.put (j : Int) x
  rwa [Int.toNat_natCast] at h_
theorem Row.cells {base : Nat} {W : World} {g cap n : Nat} {hs : List Int} (h : Row base W g cap n hs) : ∃ cells, W.heap[g]? = some (.cells cells 3 (0, 0)) := by
  obtain ⟨rfl, _, inner, h2, _⟩ := h; exact own_typed h2 g rfl
theorem Row.shape {base n0 : Nat} {W : World} {ok : Nat → Prop} {v : Value} {xs : List Int} (h : (Kd.int .i64).R 3 W base ok v xs) (hn : ∃ b, v.ownBlock = some b ∧ n0 ≤ b) : ∃ g cap, v = .slice (some ⟨g, 0, none⟩) xs.length cap ∧ n0 ≤ g ∧ Row base W g cap xs.length xs := by
  obtain ⟨b, hb, hle⟩ := hn; obtain ⟨hok, inner, ho, hr⟩ := h; rcases ho.2 with ⟨rfl, _⟩ | ⟨g, cap, cur, rfl, _⟩
  · simp [Value.ownBlock] at hb
  · have hg : g = b := by simpa [Value.ownBlock] using hb
    subst hg; refine ⟨g, cap, rfl, hle, rfl, ?_, inner, ho, hr.imp_ ?_⟩
    · intro k hk; simpa [Value.ownBlock] using hk.symm
    · intro x cs hx; exact hx
def dag_High.step (h : List Int) (x : S51) : Option (List Int) :=
  if 0 ≤ x.f0 ∧ x.f0 < h.length ∧ 0 ≤ x.f1 ∧ x.f1 < h.length then some (h.set x.f0.toNat (max (rd h x.f0) (wrap64 (x.f2 + rd h x.f1)))) else none
def dag_High.init (k : Nat) : List S24 → Option (List Int)
  | [] => some []
  | x :: xs => (isa_Late.f k x.f0).bind fun v => (dag_High.init k xs).bind fun r => some (v :: r)
def dag_High.f (k : Nat) (l : List S24) (es : List S51) : Option (List Int) := if l.length ≤ 35184372088832 then (dag_High.init k l).bind fun h => es.reverse.foldlM dag_High.step h else none
theorem dag_High.init_at (k : Nat) : ∀ (l : List S24) (h0 : List Int), dag_High.init k l = some h0 → h0.length = l.length ∧ ∀ j : Nat, j < l.length → isa_Late.f k (J24 l j).f0 = some (rd h0 j)
  | [], h0, h => by
    simp only [dag_High.init, Option.some.injEq] at h; subst h
    exact ⟨rfl, fun j hj => absurd hj (Nat.not_lt_zero _)⟩
  | x :: xs, h0, h => by
    simp only [dag_High.init] at h; obtain ⟨v, hv, h⟩ := Option.bind_eq_some_iff.mp h; obtain ⟨r, hr, h⟩ := Option.bind_eq_some_iff.mp h; obtain rfl := Option.some.inj h; obtain ⟨h1, h2⟩ := dag_High.init_at k xs r hr; refine ⟨by simp [h1], fun j hj => ?_⟩
    cases j with
    | zero => simpa [J24, rd] using hv
    | succ j => simpa [J24, rd] using h2 j (by simpa using hj)
theorem dag_High.set_at (h0 : List Int) (n j : Nat) (hn : h0.length = n) (hj : j < n) : (h0.take j ++ List.replicate (n - j) 0).set j (rd h0 j) = h0.take (j + 1) ++ List.replicate (n - (j + 1)) 0 := by
  subst hn; apply List.ext_getElem
  · simp; omega
  · intro i h1 h2; rw [List.getElem_set]
    by_cases e : j = i
    · subst e; rw [if_pos rfl, List.getElem_append_left (by simp; omega)]; simp [rd, hj]
    · rw [if_neg e]
      by_cases hi : i < j
      · rw [List.getElem_append_left (by simp; omega), List.getElem_append_left (by simp; omega)]; simp
      · rw [List.getElem_append_right (by simp; omega), List.getElem_append_right (by simp; omega)]; simp
theorem dag_High.range : ∀ (es : List S51) (h r : List Int), es.foldlM dag_High.step h = some r → (∀ x ∈ es, 0 ≤ x.f0 ∧ x.f0 < h.length ∧ 0 ≤ x.f1 ∧ x.f1 < h.length)
  | [], h, r, _ => by simp
  | x :: es, h, r, hf => by
    rw [List.foldlM_cons] at hf; obtain ⟨h1, hs, hf⟩ := Option.bind_eq_some_iff.mp hf; unfold dag_High.step at hs; split at hs
    · rename_i hc
      have h2 := dag_High.range es h1 r hf; have hl : h1.length = h.length := by rw [← Option.some.inj hs]; simp
      rw [hl] at h2; intro y hy; rcases List.mem_cons.1 hy with rfl | hy
      · exact hc
      · exact h2 y hy
    · exact absurd hs (by simp)
theorem comes_mem (es : List S51) (j : Nat) (hj : j < es.length) : comes es j ∈ es.reverse := by
  unfold comes J51; rw [show ((es.length : Int) - 1 - j).toNat = es.length - 1 - j by omega, List.getD_eq_getElem?_getD, List.getElem?_eq_getElem (by omega)]; simp
theorem own_blk {B : Nat} {X Y : World} {row : Option Nat} {b t : Nat} {cs : Array Value} (hb : X.heap[b]? = some (.cells cs t (0, 0))) (hg : X.grownBy Y row) (hr : ∀ r, row = some r → B ≤ r ∧ ∃ o : Obj, X.heap[r]? = some o ∧ o.isCells = false) : Y.heap[b]? = X.heap[b]? :=
  hg.block b (blk_lt hb) (fun e => by obtain ⟨_, o, ho, hc⟩ := hr b e.symm; rw [hb] at ho; cases ho; cases hc)
theorem dag_High.calls (k : Nat) (A0 : Option Addr) (c0 : Nat) (l0 : List S24) (A1 : Option Addr) (c1 : Nat) (l1 : List S51) (r : List Int) (w : World) (hr0 : Kd.C k24 w A0 l0.length l0) (hc0 : l0.length ≤ c0) (hr1 : Kd.C k51 w A1 l1.length l1) (hc1 : l1.length ≤ c1) (h : dag_High.f k l0 l1 = some r) :
    Calls Try.prog 57 #[.slice A0 l0.length c0, .slice A1 l1.length c1] w fun e w' => ∃ v0_ : Value, e = .returned (v0_) ∧ Kd.R (Kd.int .i64) 3 w' w.heap.size (fun _ => True) v0_ r ∧ Below w.heap.size w w' := by
  have hu24 := Try.underlying24; have hu51 := Try.underlying51; unfold dag_High.f at h
  by_cases hlen : l0.length ≤ 35184372088832
  · rw [if_pos hlen] at h; obtain ⟨h0, hi, hf⟩ := Option.bind_eq_some_iff.mp h; have Hi := aM_ hi; have Hf := aM_ hf; clear h hi hf; refine callsIn_wide.1 (callsIn_of_wp_marks (n := 5) Try.func57 rfl trivial ?_ rfl); refine wpIn_wide.2 ?_; simp only [Try.ntmps57, List.size_toArray, List.length_cons, List.length_nil, Nat.reduceAdd, Nat.reduceSub, Array.replicate_succ, Array.replicate_zero, List.push_toArray, List.append_toArray, List.nil_append, List.cons_append]; have HM := aM_ hlen; have HB := aM_ (Below.refl w.heap.size w)
    go_wp2_with (first | ((with_reducible refine gate_dst (N := 12) rfl ?_); refine Kd.R_make (Kd.int .i64) _ 3 rfl (N := 12) rfl 25 _ _ rfl (l0.length : Int) rfl rfl Try.underlying25 (.int .i64 0) 8 info3 rfl (by decide) (by omega) 0 (ok := fun k => w.heap.size ≤ k) (okp := fun k => w.heap.size ≤ k) rfl (fun _ hk => hk) (Nat.le_refl _) (Int.natCast_nonneg _) (by have := HM.out; omega) (Below.refl _ _) (Nat.le_refl _) ?_; intro v12 w5 ho6 hb hg_ hnew_; obtain ⟨g4, cap4, e4, hg4, hRow⟩ := Row.shape ho6 hnew_; subst e4; simp only [List.length_replicate, Int.toNat_natCast] at hRow ⊢; have HO := aM_ hRow; have HB1 := aM_ hb; have HN := aM_ hg4; clear ho6 hb hg_ hnew_ hg4 hRow) | ((with_reducible refine gate_dst (N := 5) rfl ?_); refine bX_ (N := 5) (cs := #[.slice none 0 0]) (t := 25) ?_; intro g5 hg w6 hbox hb; have hcb := (bC_ hbox 0).trans rfl; have hfb := bZ_ hbox 0; have BX := aM_ hbox; have HG := aM_ hg; have HB2 := aM_ hb; clear hbox hg hb))
    obtain ⟨hl0, hlate⟩ := dag_High.init_at k l0 h0 Hi.out; have hlt4 : g4 < w5.heap.size := HO.out.lt; have hne45 : g4 ≠ g5 := by have := HG.out; omega
    go_loopw [15] (fun i wr => ∃ j : Nat, j ≤ l0.length ∧ i = .int .i64 j ∧ As_ (Row w.heap.size wr g4 cap4 l0.length (h0.take j ++ List.replicate (l0.length - j) 0)) ∧ As_ (wr.heap[g5]? = some (.cells #[.slice (some ⟨g4, 0, none⟩) l0.length cap4] 25 (0, 0))) ∧ As_ (Below w.heap.size w wr)) (fun i _ => l0.length - (intOf i).toNat)
    case atStart =>
      refine ⟨0, Nat.zero_le _, rfl, ⟨?_⟩, ⟨?_⟩, ⟨?_⟩⟩
      · simp only [List.take_zero, List.nil_append, Nat.sub_zero]; exact HO.out.step (by rw [Below.heap_setCell _ _ _ _ hne45]; exact HB2.out.block g4 hlt4)
      · exact blk_put BX.out 0 _ rfl
      · exact (HB1.out.trans (HB2.out.mono HB1.out.size)).setCell (p := ⟨g5, 0, none⟩) (by show w.heap.size ≤ g5; have := HG.out; have := HB1.out.size; omega) _
    case round =>
      clear hcb hfb HO BX; obtain ⟨j, hj, rfl, HO, BX, HB⟩ := hrel
      by_cases hlt : j < l0.length
      · have hla := aM_ (hlate j hlt); clear hlate; obtain ⟨ad, e1, hx0, hx1, hx2, hx3, hx4, hx5⟩ := at_T24 hr0 (j : Int) (Int.natCast_nonneg _) (by omega); subst e1; rw [Int.toNat_natCast] at hx0 hx1 hx2 hx3 hx4 hx5; replace hx0 := hC_ HB hx0; replace hx1 := hC_ HB hx1; replace hx2 := hC_ HB hx2; replace hx3 := hC_ HB hx3; replace hx4 := hC_ HB hx4; replace hx5 := hC_ HB hx5; have p1 : ((0 : Int) ≤ (j : Int)) = True := eq_true (Int.natCast_nonneg _); have q1 : ((j : Int) < (l0.length : Int)) = True := eq_true (by omega); have q2 : (j < l0.length) = True := eq_true hlt; have bx : (wr.alloc (.cells #[.int .i64 0, .int .i64 0, .int .i64 0, .int .i64 0, .int .i64 0, .string (⟨#[]⟩ : ByteArray)] 24)).heap[wr.heap.size]? = some (.cells #[.int .i64 0, .int .i64 0, .int .i64 0, .int .i64 0, .int .i64 0, .string (⟨#[]⟩ : ByteArray)] 24 (0, 0)) := blk_new wr _; have z0 := (bC_ bx 0).trans rfl; have z1 := (bC_ bx 1).trans rfl; have z2 := (bC_ bx 2).trans rfl; have z3 := (bC_ bx 3).trans rfl; have z4 := (bC_ bx 4).trans rfl; have z5 := (bC_ bx 5).trans rfl; have y0 := bZ_ bx 0; have y1 := bZ_ bx 1; have y2 := bZ_ bx 2; have y3 := bZ_ bx 3; have y4 := bZ_ bx 4; have y5 := bZ_ bx 5; clear bx; have n5 : g5 ≠ wr.heap.size := by have := blk_lt BX.out; omega
        have n5' : wr.heap.size ≠ g5 := fun e => n5 e.symm; have n4 : g4 ≠ wr.heap.size := by have := HO.out.lt; omega
        have n4' : wr.heap.size ≠ g4 := fun e => n4 e.symm; go_wp2; have bx := blk_new wr (.cells #[.int .i64 (J24 l0 (j : Int)).f0, .int .i64 (J24 l0 (j : Int)).f1, .int .i64 (J24 l0 (j : Int)).f2, .int .i64 (J24 l0 (j : Int)).f3, .int .i64 (J24 l0 (j : Int)).f4, .string (J24 l0 (j : Int)).f5] 24 (0, 0)); have HO7 := aM_ (HO.out.step (Below.heap_alloc wr (.cells #[.int .i64 (J24 l0 (j : Int)).f0, .int .i64 (J24 l0 (j : Int)).f1, .int .i64 (J24 l0 (j : Int)).f2, .int .i64 (J24 l0 (j : Int)).f3, .int .i64 (J24 l0 (j : Int)).f4, .string (J24 l0 (j : Int)).f5] 24 (0, 0)) g4 HO.out.lt)); have BX7 := aM_ (kA_ BX.out (.cells #[.int .i64 (J24 l0 (j : Int)).f0, .int .i64 (J24 l0 (j : Int)).f1, .int .i64 (J24 l0 (j : Int)).f2, .int .i64 (J24 l0 (j : Int)).f3, .int .i64 (J24 l0 (j : Int)).f4, .string (J24 l0 (j : Int)).f5] 24 (0, 0))); have HB7 := aM_ (HB.out.alloc HB.out.size (.cells #[.int .i64 (J24 l0 (j : Int)).f0, .int .i64 (J24 l0 (j : Int)).f1, .int .i64 (J24 l0 (j : Int)).f2, .int .i64 (J24 l0 (j : Int)).f3, .int .i64 (J24 l0 (j : Int)).f4, .string (J24 l0 (j : Int)).f5] 24 (0, 0))); generalize hW7 : wr.alloc (.cells #[.int .i64 (J24 l0 (j : Int)).f0, .int .i64 (J24 l0 (j : Int)).f1, .int .i64 (J24 l0 (j : Int)).f2, .int .i64 (J24 l0 (j : Int)).f3, .int .i64 (J24 l0 (j : Int)).f4, .string (J24 l0 (j : Int)).f5] 24 (0, 0)) = W7 at bx HO7 BX7 HB7 ⊢; clear hW7 z0 z1 z2 z3 z4 z5 y0 y1 y2 y3 y4 y5 hx0 hx1 hx2 hx3 hx4 hx5; have x0 := (bC_ bx 0).trans rfl; have b5 := (bC_ BX7.out 0).trans rfl; have hR := HO7.out.cell (j : Int) (Int.natCast_nonneg _) (by omega); rw [Int.toNat_natCast] at hR; obtain ⟨b4, b4'⟩ := hR; clear bx; refine wp_normal_only ?_; unfold OnlyNormal
        go_region_with (go_at_call 92; (with_reducible refine (isa_Late.calls k (J24 l0 (j : Int)).f0 (rd h0 (j : Int)) _ hla.out).mono ?_); rintro e w' ⟨rfl, ⟨nd, rfl⟩⟩)
        all_goals (try dsimp only)
        all_goals go_wp2
        all_goals go_roundw
        all_goals first
          | (refine ⟨j + 1, by omega, by simp, ⟨?_⟩, ⟨?_⟩, ⟨?_⟩⟩
             · rw [← dag_High.set_at h0 l0.length j hl0 hlt]; exact Row.putN (HO7.out.step rfl) j _
             · rw [Below.heap_setCell _ _ _ _ hne45.symm]; exact BX7.out
             · refine Below.setCell (p := ⟨g4, j, none⟩) ?_ HN.out _
               repeat (first | exact HB7.out | apply bN_ | apply b1_))
          | (simp [intOf]; omega)
      · obtain rfl : j = l0.length := by omega
        have p1 : ((l0.length : Int) < (l0.length : Int)) = False := eq_false (by omega); simp only [Nat.sub_self, List.replicate_zero, List.append_nil, List.take_of_length_le (Nat.le_of_eq hl0)] at HO
        go_wp2_with (go_at_call 93; refine (callsIn_wide.1 (back_in Fence.wide 1 trivial rfl _ _ _ _)).mono ?_; rintro e w' ⟨rfl, rfl⟩)
        have hbe := blk_new wr (.cells #[.slice A1 l1.length c1] 31 (0, 0)); have HO7 := aM_ (HO.out.step (Below.heap_alloc wr (.cells #[.slice A1 l1.length c1] 31 (0, 0)) g4 HO.out.lt)); have BX7 := aM_ (kA_ BX.out (.cells #[.slice A1 l1.length c1] 31 (0, 0))); have HB7 := aM_ (HB.out.alloc HB.out.size (.cells #[.slice A1 l1.length c1] 31 (0, 0))); have hlt5 := blk_lt BX.out; have hsz : (wr.alloc (.cells #[.slice A1 l1.length c1] 31 (0, 0))).heap.size = wr.heap.size + 1 := by simp
        have hwr := HB.out.size; obtain ⟨Be, hBe⟩ : ∃ Be, Be = wr.heap.size := ⟨_, rfl⟩
        rw [← hBe] at hbe hsz hlt5 ⊢; generalize hW7 : wr.alloc (.cells #[.slice A1 l1.length c1] 31 (0, 0)) = W7 at hbe HO7 BX7 HB7 hsz ⊢; have hrg := dag_High.range _ _ _ Hf.out
        refine wpIn_wide.1 (wpIn_rangeFunc_ownH (F := Fence.wide) (n := 5) rfl (by omega) (gf := 116) (lb := #[.pointer (some ⟨Be, 0, none⟩)]) rfl trivial (enters_of Try.func116 (by kernel_rfl) rfl)
          (back_stops Fence.wide (5 - 1) trivial rfl (by omega) Be A1 c1 l1 w W7 hr1 HB7.out hbe) (fun h k => KpB.t h k) (KpB.b HB7.out.size (by omega)) (Below.refl _ _) (fun _ => rfl)
          (fun pre W => (∃ hs, (pre.map (fun j : Fin l1.length => comes l1 j.1)).foldlM dag_High.step h0 = some hs ∧ Row w.heap.size W g4 cap4 l0.length hs) ∧ W.heap[g5]? = some (.cells #[.slice (some ⟨g4, 0, none⟩) l0.length cap4] 25 (0, 0)) ∧ W.heap[Be]? = some (.cells #[.slice A1 l1.length c1] 31 (0, 0)) ∧ Below w.heap.size w W)
          (fun _ _ _ => False)
          ?hI (fun _ _ _ _ _ hs _ _ => hs) ⟨⟨h0, rfl, HO7.out⟩, BX7.out, hbe, HB7.out⟩
          (fun x a' W => ∃ Bx, Be < Bx ∧ W.heap[Bx]? = some (.cells #[.int .i64 (comes l1 x.1).f0, .int .i64 (comes l1 x.1).f1, .int .i64 (comes l1 x.1).f2] 51 (0, 0)) ∧
            a' = { tmps := (Value.slice A0 l0.length c0 :: Value.slice A1 l1.length c1 :: undef :: undef :: Value.slice none 0 0 :: Value.pointer (some ⟨g5, 0, none⟩) :: u6 :: u7 :: undef :: Value.pointer (some ⟨Bx, 0, none⟩) :: Value.slice A0 l0.length c0 :: Value.int .i64 l0.length :: Value.slice (some ⟨g4, 0, none⟩) l0.length cap4 :: Value.slice A0 l0.length c0 :: Value.int .i64 l0.length :: Value.int .i64 l0.length :: Value.bool false :: u17 :: u18 :: u19 :: u20 :: u21 :: u22 :: u23 :: u24 :: u25 :: u26 :: Value.slice A1 l1.length c1 :: Value.func (.func 116) #[] #[.pointer (some ⟨Be, 0, none⟩)] :: Value.int .i64 ((l1.length : Int) - 1 - (x.1 : Int)) :: Value.agg #[.int .i64 (comes l1 x.1).f0, .int .i64 (comes l1 x.1).f1, .int .i64 (comes l1 x.1).f2] :: undef :: undef :: undef :: undef :: undef :: undef :: undef :: undef :: undef :: undef :: undef :: undef :: undef :: undef :: undef :: undef :: undef :: undef :: undef :: []).toArray, defers := [] })
          ?hAx ?assign ?body ?done ?stop)
        case hI =>
          rintro pre X Y row ⟨⟨hs, e1, hR⟩, h5, he, hB⟩ hg hr; obtain ⟨cs4, hc4⟩ := hR.cells; exact ⟨⟨hs, e1, hR.step (own_blk hc4 hg hr)⟩, (own_blk h5 hg hr).trans h5, (own_blk he hg hr).trans he, hB.grown hg hB.size (fun k e => by have := (hr k e).1; omega)⟩
        case hAx =>
          rintro x a' _ X Y row ⟨Bx, h1, h2, h3⟩ hg hr; exact ⟨Bx, h1, (own_blk h2 hg hr).trans h2, h3⟩
        case assign =>
          rintro l pre x W K ⟨⟨hs, e1, hR⟩, h5, he, hB⟩ hK; have bx : (W.alloc (.cells #[.int .i64 0, .int .i64 0, .int .i64 0] 51)).heap[W.heap.size]? = some (.cells #[.int .i64 0, .int .i64 0, .int .i64 0] 51 (0, 0)) := blk_new W _; have z0 := (bC_ bx 0).trans rfl; have z1 := (bC_ bx 1).trans rfl; have z2 := (bC_ bx 2).trans rfl; have y0 := bZ_ bx 0; have y1 := bZ_ bx 1; have y2 := bZ_ bx 2; clear bx
          gi_wp2
          exact hK _ _ ((KeepsOthers.alloc _ _).from _) ⟨(Below.refl _ W).alloc hB.size _, Below.heap_alloc W _ Be (blk_lt he)⟩ ⟨⟨hs, e1, hR.step (Below.heap_alloc W _ g4 hR.lt)⟩, kA_ h5 _, kA_ he _, hB.alloc hB.size _⟩ ⟨W.heap.size, blk_lt he, blk_new W _, by subst hBe; rfl⟩
        case body =>
          rintro l pre x a' W hl ⟨r', hr'⟩ ⟨⟨hs, e1, hR⟩, h5, he, hB⟩ ⟨Bx, hBx, hbx, rfl⟩ hlen'; obtain ⟨r0, r1, r2, r3⟩ := hrg (comes l1 x.1) (comes_mem l1 x.1 x.2); rw [hl0] at r1 r3; have x0 := (bC_ hbx 0).trans rfl; have x1 := (bC_ hbx 1).trans rfl; have x2 := (bC_ hbx 2).trans rfl; have b5 := (bC_ h5 0).trans rfl; obtain ⟨c0', c0f⟩ := hR.cell (comes l1 x.1).f0 r0 r1; obtain ⟨c1', c1f⟩ := hR.cell (comes l1 x.1).f1 r2 r3; have hput := aM_ (hR.put (comes l1 x.1).f0 (max (rd hs (comes l1 x.1).f0) (wrap64 ((comes l1 x.1).f2 + rd hs (comes l1 x.1).f1)))); have hne : g4 ≠ Be := by have := hR.lt; have := blk_lt he; have := HO.out.lt; omega
          clear hr' hl; replace r0 := eq_true r0; replace r1 := eq_true r1; replace r2 := eq_true r2; replace r3 := eq_true r3; have hR' := aM_ hR; have h5' := aM_ h5; have he' := aM_ he; have hB' := aM_ hB; clear hR h5 he hB hbx
          gi_wp2
          refine startIn_ (n := 19) (S := fun w' => w'.cell? ⟨g5, 0, none⟩ = some (.slice (some ⟨g4, 0, none⟩) l0.length cap4) ∧ w'.cell? ⟨Bx, 0, none⟩ = some (.int .i64 (comes l1 x.1).f0) ∧ w'.cell? ⟨Bx, 1, none⟩ = some (.int .i64 (comes l1 x.1).f1) ∧ w'.cell? ⟨Bx, 2, none⟩ = some (.int .i64 (comes l1 x.1).f2) ∧ w'.cell? ⟨g4, (comes l1 x.1).f0.toNat, none⟩ = some (.int .i64 (rd hs (comes l1 x.1).f0)) ∧ w'.cell? ⟨g4, (comes l1 x.1).f1.toNat, none⟩ = some (.int .i64 (rd hs (comes l1 x.1).f1))) (ds := [18]) #[false, false, false, false, false, false, false, false, false, false, false, false, false, false, false, false, false, false, false] (by kernel_rfl) (by kernel_rfl) rfl rfl ⟨b5, x0, x1, x2, c0', c1'⟩ (fun hHeld => ?_); have f0' : W.drew.frozen? ⟨g4, (comes l1 x.1).f0.toNat, none⟩ = false := c0f; have hput' : As_ (Row w.heap.size (W.drew.setCell ⟨g4, (comes l1 x.1).f0.toNat, none⟩ (.int .i64 (max (rd hs (comes l1 x.1).f0) (wrap64 ((comes l1 x.1).f2 + rd hs (comes l1 x.1).f1))))) g4 cap4 l0.length _) := ⟨hput.out.step rfl⟩
          have hd0 : ∀ b : Nat, W.drew.heap[b]? = W.heap[b]? := fun _ => rfl; have hlow := aM_ (below_drew (Below.refl w.heap.size W)); have hkf := aM_ ((KeepsOthers.drew W).from W7.heap.size); have hc0 := c0'; clear c0f c1f hput; replace c0' : W.drew.cell? ⟨g4, (comes l1 x.1).f0.toNat, none⟩ = _ := hc0; clear hc0 x0 x1 x2 b5 c1'; generalize W.drew = w2 at c0' f0' hput' hd0 hlow hkf hHeld ⊢; refine take_ (i := 0) (N := (some 31)) (v := ?_) (a' := ?_) #[true, false, false, false, false, false, false, false, false, false, false, false, false, false, false, false, false, false, false] rfl rfl (by kernel_rfl) (fun _ _ _ h => h) (Or.inl ⟨by rfl, ?_⟩) hHeld ?_ ?_; rotate_left
          · rintro w' ⟨s0, s1, s2, s3, s4, s5⟩
            go_simp
            with_reducible rfl
          rotate_left
          · simp only [Act.put, List.setIfInBounds_toArray, List.set_cons_zero, List.set_cons_succ, i64_w, i32_w]; rfl
          refine pure_ (i := 1) (N := (some 32)) (v := ?_) (a' := ?_) #[true, true, false, false, false, false, false, false, false, false, false, false, false, false, false, false, false, false, false] rfl rfl (by kernel_rfl) (fun _ _ _ h => h) (Or.inl ⟨by rfl, ?_⟩) ?_ ?_; rotate_left
          · intro w'
            go_simp
            with_reducible rfl
          rotate_left
          · simp only [Act.put, List.setIfInBounds_toArray, List.set_cons_zero, List.set_cons_succ, i64_w, i32_w]; rfl
          refine take_ (i := 2) (N := (some 33)) (v := ?_) (a' := ?_) #[true, true, true, false, false, false, false, false, false, false, false, false, false, false, false, false, false, false, false] rfl rfl (by kernel_rfl) (fun _ _ _ h => h) (Or.inl ⟨by rfl, ?_⟩) hHeld ?_ ?_; rotate_left
          · rintro w' ⟨s0, s1, s2, s3, s4, s5⟩
            go_simp
            with_reducible rfl
          rotate_left
          · simp only [Act.put, List.setIfInBounds_toArray, List.set_cons_zero, List.set_cons_succ, i64_w, i32_w]; rfl
          refine take_ (i := 3) (N := (some 34)) (v := ?_) (a' := ?_) #[true, true, true, true, false, false, false, false, false, false, false, false, false, false, false, false, false, false, false] rfl rfl (by kernel_rfl) (fun _ _ _ h => h) (Or.inl ⟨by rfl, ?_⟩) hHeld ?_ ?_; rotate_left
          · rintro w' ⟨s0, s1, s2, s3, s4, s5⟩
            go_simp
            with_reducible rfl
          rotate_left
          · simp only [Act.put, List.setIfInBounds_toArray, List.set_cons_zero, List.set_cons_succ, i64_w, i32_w]; rfl
          refine pure_ (i := 4) (N := (some 35)) (v := ?_) (a' := ?_) #[true, true, true, true, true, false, false, false, false, false, false, false, false, false, false, false, false, false, false] rfl rfl (by kernel_rfl) (fun _ _ _ h => h) (Or.inl ⟨by rfl, ?_⟩) ?_ ?_; rotate_left
          · intro w'
            go_simp
            with_reducible rfl
          rotate_left
          · simp only [Act.put, List.setIfInBounds_toArray, List.set_cons_zero, List.set_cons_succ, i64_w, i32_w]; rfl
          refine take_ (i := 5) (N := (some 36)) (v := ?_) (a' := ?_) #[true, true, true, true, true, true, false, false, false, false, false, false, false, false, false, false, false, false, false] rfl rfl (by kernel_rfl) (fun _ _ _ h => h) (Or.inl ⟨by rfl, ?_⟩) hHeld ?_ ?_; rotate_left
          · rintro w' ⟨s0, s1, s2, s3, s4, s5⟩
            go_simp
            with_reducible rfl
          rotate_left
          · simp only [Act.put, List.setIfInBounds_toArray, List.set_cons_zero, List.set_cons_succ, i64_w, i32_w]; rfl
          refine pure_ (i := 6) (N := (some 37)) (v := ?_) (a' := ?_) #[true, true, true, true, true, true, true, false, false, false, false, false, false, false, false, false, false, false, false] rfl rfl (by kernel_rfl) (fun _ _ _ h => h) (Or.inl ⟨by rfl, ?_⟩) ?_ ?_; rotate_left
          · intro w'
            go_simp
            with_reducible rfl
          rotate_left
          · simp only [Act.put, List.setIfInBounds_toArray, List.set_cons_zero, List.set_cons_succ, i64_w, i32_w]; rfl
          refine take_ (i := 7) (N := (some 38)) (v := ?_) (a' := ?_) #[true, true, true, true, true, true, true, true, false, false, false, false, false, false, false, false, false, false, false] rfl rfl (by kernel_rfl) (fun _ _ _ h => h) (Or.inl ⟨by rfl, ?_⟩) hHeld ?_ ?_; rotate_left
          · rintro w' ⟨s0, s1, s2, s3, s4, s5⟩
            go_simp
            with_reducible rfl
          rotate_left
          · simp only [Act.put, List.setIfInBounds_toArray, List.set_cons_zero, List.set_cons_succ, i64_w, i32_w]; rfl
          refine pure_ (i := 8) (N := (some 39)) (v := ?_) (a' := ?_) #[true, true, true, true, true, true, true, true, true, false, false, false, false, false, false, false, false, false, false] rfl rfl (by kernel_rfl) (fun _ _ _ h => h) (Or.inl ⟨by rfl, ?_⟩) ?_ ?_; rotate_left
          · intro w'
            go_simp
            with_reducible rfl
          rotate_left
          · simp only [Act.put, List.setIfInBounds_toArray, List.set_cons_zero, List.set_cons_succ, i64_w, i32_w]; rfl
          refine take_ (i := 9) (N := (some 40)) (v := ?_) (a' := ?_) #[true, true, true, true, true, true, true, true, true, true, false, false, false, false, false, false, false, false, false] rfl rfl (by kernel_rfl) (fun _ _ _ h => h) (Or.inl ⟨by rfl, ?_⟩) hHeld ?_ ?_; rotate_left
          · rintro w' ⟨s0, s1, s2, s3, s4, s5⟩
            go_simp
            with_reducible rfl
          rotate_left
          · simp only [Act.put, List.setIfInBounds_toArray, List.set_cons_zero, List.set_cons_succ, i64_w, i32_w]; rfl
          refine take_ (i := 10) (N := (some 41)) (v := ?_) (a' := ?_) #[true, true, true, true, true, true, true, true, true, true, true, false, false, false, false, false, false, false, false] rfl rfl (by kernel_rfl) (fun _ _ _ h => h) (Or.inl ⟨by rfl, ?_⟩) hHeld ?_ ?_; rotate_left
          · rintro w' ⟨s0, s1, s2, s3, s4, s5⟩
            go_simp
            with_reducible rfl
          rotate_left
          · simp only [Act.put, List.setIfInBounds_toArray, List.set_cons_zero, List.set_cons_succ, i64_w, i32_w]; rfl
          refine pure_ (i := 11) (N := (some 42)) (v := ?_) (a' := ?_) #[true, true, true, true, true, true, true, true, true, true, true, true, false, false, false, false, false, false, false] rfl rfl (by kernel_rfl) (fun _ _ _ h => h) (Or.inl ⟨by rfl, ?_⟩) ?_ ?_; rotate_left
          · intro w'
            go_simp
            with_reducible rfl
          rotate_left
          · simp only [Act.put, List.setIfInBounds_toArray, List.set_cons_zero, List.set_cons_succ, i64_w, i32_w]; rfl
          refine take_ (i := 12) (N := (some 43)) (v := ?_) (a' := ?_) #[true, true, true, true, true, true, true, true, true, true, true, true, true, false, false, false, false, false, false] rfl rfl (by kernel_rfl) (fun _ _ _ h => h) (Or.inl ⟨by rfl, ?_⟩) hHeld ?_ ?_; rotate_left
          · rintro w' ⟨s0, s1, s2, s3, s4, s5⟩
            go_simp
            with_reducible rfl
          rotate_left
          · simp only [Act.put, List.setIfInBounds_toArray, List.set_cons_zero, List.set_cons_succ, i64_w, i32_w]; rfl
          refine pure_ (i := 13) (N := (some 44)) (v := ?_) (a' := ?_) #[true, true, true, true, true, true, true, true, true, true, true, true, true, true, false, false, false, false, false] rfl rfl (by kernel_rfl) (fun _ _ _ h => h) (Or.inl ⟨by rfl, ?_⟩) ?_ ?_; rotate_left
          · intro w'
            go_simp
            with_reducible rfl
          rotate_left
          · simp only [Act.put, List.setIfInBounds_toArray, List.set_cons_zero, List.set_cons_succ, i64_w, i32_w]; rfl
          refine take_ (i := 14) (N := (some 45)) (v := ?_) (a' := ?_) #[true, true, true, true, true, true, true, true, true, true, true, true, true, true, true, false, false, false, false] rfl rfl (by kernel_rfl) (fun _ _ _ h => h) (Or.inl ⟨by rfl, ?_⟩) hHeld ?_ ?_; rotate_left
          · rintro w' ⟨s0, s1, s2, s3, s4, s5⟩
            go_simp
            with_reducible rfl
          rotate_left
          · simp only [Act.put, List.setIfInBounds_toArray, List.set_cons_zero, List.set_cons_succ, i64_w, i32_w]; rfl
          refine pure_ (i := 15) (N := (some 46)) (v := ?_) (a' := ?_) #[true, true, true, true, true, true, true, true, true, true, true, true, true, true, true, true, false, false, false] rfl rfl (by kernel_rfl) (fun _ _ _ h => h) (Or.inl ⟨by rfl, ?_⟩) ?_ ?_; rotate_left
          · intro w'
            go_simp
            with_reducible rfl
          rotate_left
          · simp only [Act.put, List.setIfInBounds_toArray, List.set_cons_zero, List.set_cons_succ, i64_w, i32_w]; rfl
          refine pure_ (i := 16) (N := (some 47)) (v := ?_) (a' := ?_) #[true, true, true, true, true, true, true, true, true, true, true, true, true, true, true, true, true, false, false] rfl rfl (by kernel_rfl) (fun _ _ _ h => h) (Or.inl ⟨by rfl, ?_⟩) ?_ ?_; rotate_left
          · intro w'
            go_simp
            with_reducible rfl
          rotate_left
          · simp only [Act.put, List.setIfInBounds_toArray, List.set_cons_zero, List.set_cons_succ, i64_w, i32_w]; rfl
          refine pure_ (i := 17) (N := (some 48)) (v := ?_) (a' := ?_) #[true, true, true, true, true, true, true, true, true, true, true, true, true, true, true, true, true, true, false] rfl rfl (by kernel_rfl) (fun _ _ _ h => h) (Or.inl ⟨by rfl, ?_⟩) ?_ ?_; rotate_left
          · intro w'
            go_simp
            with_reducible rfl
          rotate_left
          · simp only [Act.put, List.setIfInBounds_toArray, List.set_cons_zero, List.set_cons_succ, i64_w, i32_w]; rfl
          refine last_ (i := 18) (N := none) #[true, true, true, true, true, true, true, true, true, true, true, true, true, true, true, true, true, true, true] rfl rfl (by kernel_rfl) (by decide) (fun K hK => ?_); refine skip_ (w1 := ?_) (by rfl) rfl ?_ ?_; rotate_left
          · go_simp
            rfl
          refine hK.out _ _ ?_; clear hK K; refine done_ (by kernel_rfl) ?_; rw [show (if rd hs (comes l1 x.1).f0 < wrap64 ((comes l1 x.1).f2 + rd hs (comes l1 x.1).f1) then wrap64 ((comes l1 x.1).f2 + rd hs (comes l1 x.1).f1) else rd hs (comes l1 x.1).f0) = max (rd hs (comes l1 x.1).f0) (wrap64 ((comes l1 x.1).f2 + rd hs (comes l1 x.1).f1)) by rw [Int.max_def]; split <;> split <;> omega]; refine (show KeepsFrom W7.heap.size W _ ∧ KpB w.heap.size Be W _ ∧ _ from ⟨hkf.out.trans ((KeepsOthers.setCell _ _ _).from _), ⟨hlow.out.setCell (p := ⟨g4, _, none⟩) HN.out _, ?_⟩, ⟨_, ?_, hput'.out⟩, ?_, ?_, ?_⟩)
          · rw [Below.heap_setCell _ _ _ _ hne.symm, hd0]
          · rw [List.map_append, List.foldlM_append, e1]; show (([x].map fun j : Fin l1.length => comes l1 j.1).foldlM dag_High.step hs) = _; simp only [List.map_cons, List.map_nil, List.foldlM_cons, List.foldlM_nil]; unfold dag_High.step; rw [if_pos ⟨of_eq_true r0, by rw [hR'.out.1]; exact of_eq_true r1, of_eq_true r2, by rw [hR'.out.1]; exact of_eq_true r3⟩]; rfl
          · rw [Below.heap_setCell _ _ _ _ hne45.symm, hd0]; exact h5'.out
          · rw [Below.heap_setCell _ _ _ _ hne.symm, hd0]; exact he'.out
          · exact (hB'.out.trans hlow.out).setCell (p := ⟨g4, _, none⟩) HN.out _
        case done =>
          rintro D xs W hD rfl ⟨⟨hs, e1, hR⟩, h5, he, hB⟩ hK; rw [upto_all, Hf.out] at e1; obtain rfl := Option.some.inj e1; have b5 := (bC_ h5 0).trans rfl; go_wp2; refine ⟨by simp, .inl ⟨_, _, rfl, run_takeDeferred hK, ?_⟩⟩
          have hne4 : D ≠ g4 := fun e => by
            obtain ⟨cs4, hc4⟩ := hR.cells; rw [← e, hK] at hc4
            cases hc4
          exact ⟨_, results_tmp rfl _ _ _, _, rfl, Kd.R_mono (Row.step (W1 := W.putObj D (.deferred none)) hR (World.putObj_heap_other (Ne.symm hne4))).2 (fun _ _ => trivial), hB.trans (belowK_b (w := w) (Nat.le_refl _) W D _ _ (by have := HB7.out.size; omega) hK rfl rfl)⟩
        case stop =>
          rintro D c pre W _ _ h _; exact h.elim
  · rw [if_neg hlen] at h; exact absurd h (by simp)
end
section
attribute [local go_sem] max2_int min2_int max_two min_two max_three min_three max_four min_four
theorem eqA51 (d : Nat) (w : World) (x0 y0 : Int) (x1 y1 : Int) (x2 y2 : Int) :
    (Op.equalIn (d + 2) 51 (.agg #[.int .i64 x0, .int .i64 x1, .int .i64 x2]) (.agg #[.int .i64 y0, .int .i64 y1, .int .i64 y2])).run Try.prog w = .ok (x0 == y0 && (x1 == y1 && (x2 == y2))) w := by
 refine eqA_of Try.underlying51 (by kernel_rfl) ?_; refine eqf_cons (by rfl) (by go_simp; rfl) (by go_simp; rfl) (by go_simp) ?_; refine eqf_cons (by rfl) (by go_simp; rfl) (by go_simp; rfl) (by go_simp) ?_; exact eqf_last (by rfl) (by go_simp; rfl) (by go_simp; rfl) (by go_simp)
end
section
attribute [local go_sem] max2_int min2_int max_two min_two max_three min_three max_four min_four
mutual
def isa_Name2.j0 : Nat → ByteArray → Bool → Option (Bool)
  | 0, _, _ => none
  | k + 1, x0, x17 => if x17 = true then (some false) else (isa_Name2.l0 k x0 (x0.size : Int) 0)
def isa_Name2.l0 : Nat → ByteArray → Int → Int → Option (Bool)
  | 0, _, _, _ => none
  | k + 1, x0, x19, x20 => if x20 < x19 then (if 0 ≤ x20 then (if x20 < (x0.size : Int) then ((isa_letter.f (bt x0 x20)).bind fun t102 => (if t102 = true then (isa_Name2.j2 k x0 x19 x20 false) else (if (bt x0 x20) < 48 then (isa_Name2.j2 k x0 x19 x20 true) else (isa_Name2.j2 k x0 x19 x20 (decide ((bt x0 x20) > 57)))))) else (none)) else (none)) else (some true)
def isa_Name2.j2 : Nat → ByteArray → Int → Int → Bool → Option (Bool)
  | 0, _, _, _, _ => none
  | k + 1, x0, x19, x20, x36 => if x36 = true then (some false) else (isa_Name2.l0 k x0 x19 (wrap64 (x20 + 1)))
end
def isa_Name2.f (k : Nat) (a0 : ByteArray) : Option (Bool) := if a0.toList = ([] : List UInt8) then (isa_Name2.j0 k a0 true) else (if (a0.size : Int) > 12 then (isa_Name2.j0 k a0 true) else (if 0 < (a0.size : Int) then ((isa_letter.f (bt a0 0)).bind fun t101 => (isa_Name2.j0 k a0 (!t101))) else (none)))
theorem isa_Name2.calls (k : Nat) (a0 : ByteArray) (r : Bool) (w : World) (h : isa_Name2.f k a0 = some r) :
    Calls Try.prog 111 #[.string a0] w fun e w' => e = .returned (.bool r) ∧ Dr_ w w' := by
 have H : (if a0.toList = ([] : List UInt8) then (isa_Name2.j0 k a0 true) else (if (a0.size : Int) > 12 then (isa_Name2.j0 k a0 true) else (if 0 < (a0.size : Int) then ((isa_letter.f (bt a0 0)).bind fun t101 => (isa_Name2.j0 k a0 (!t101))) else (none)))) = some r := h; clear h; have HC2 := aM_ H; clear H; go_enter Try.func111, Try.ntmps111
 go_upto_region 1 with (fail)
 go_cut [17] (fun v17 wc => ∃ (kq : Nat) (x17_1 : Bool), v17 = .bool x17_1 ∧ As_ (isa_Name2.j0 kq a0 x17_1 = some r) ∧ As_ (kq ≤ k) ∧ Dr_ w wc)
 case first =>
  have H := HC2.out; clear HC2
  by_cases c3 : a0.toList = ([] : List UInt8)
  ·rw [if_pos c3] at H; have c3b0 := bH_ c3; have c3b1 := bF_ c3; clear c3
   (first | rw [c3b0] | (simp only [i64_w, i32_w]; rw [c3b0]) | skip)
   replace H := aM_ H; go_wp2
   go_meet
   case rel => exact ⟨_, (true), eQ_, H, ⟨by first | omega | exact Nat.le_refl _⟩, dR_⟩
  rw [if_neg c3] at H; have c3b0 := bE_ c3; have c3b1 := bG_ c3
  (first | rw [c3b0] | (simp only [i64_w, i32_w]; rw [c3b0]) | skip)
  by_cases c4 : (a0.size : Int) > 12
  ·rw [if_pos c4] at H; have c4b0 := dE_ c4; have c4b1 : decide (12 < a0.size) = true := decide_eq_true (by omega); clear c4; replace H := aM_ H; go_wp2
   go_meet
   case rel => exact ⟨_, (true), eQ_, H, ⟨by first | omega | exact Nat.le_refl _⟩, dR_⟩
  rw [if_neg c4] at H; have c4b0 := dF_ c4; have c4b1 : decide (12 < a0.size) = false := decide_eq_false (by omega); clear c4
  by_cases c5 : 0 < (a0.size : Int)
  ·rw [if_pos c5] at H; have c5b0 := dE_ c5; have c5b1 : decide (0 < a0.size) = true := decide_eq_true (by omega); clear c5; obtain ⟨t101, A7, H⟩ := oB_ H; replace H := aM_ H; have p6 : 0 ≤ (0 : Int) := (by omega)
   have q6 : 0 < a0.size := (by have : (0 : Int) < (a0.size : Int) := oD_; omega)
   have hx6 : ∀ h : 0 < a0.size, ((a0[0]'h).toNat : Int) = bt a0 0 := bt_at a0 0; clear p6; have qi6 : (0 < (a0.size : Int)) = True := eq_true (oD_); replace q6 := eq_true q6
   go_wp2_with (first | (go_at_call 126; (with_reducible refine (isa_letter.calls (bt a0 0) t101 _ A7.out).mono ?_); rintro e w' ⟨rfl, ⟨nd, rfl⟩⟩))
   go_meet
   case rel => exact ⟨_, (!t101), eQ_, H, ⟨by first | omega | exact Nat.le_refl _⟩, dR_⟩
  rw [if_neg c5] at H; exact absurd H (by simp)
 case rest =>
  clear HC2; obtain ⟨kq, x17_1, rfl, HA, HJ1, ⟨mc1, rfl⟩⟩ := hcut
  cases kq with
  | zero => exact absurd HA.out (by simp [isa_Name2.j0])
  | succ kj1 =>
   have H := HA.out; clear HA; simp only [isa_Name2.j0] at H
   by_cases c8 : x17_1 = true
   ·subst c8; rw [if_pos rfl] at H; obtain rfl := oI_ H; go_wp2; go_ret; exact ⟨eQ_, dR_⟩
   replace c8 := eF_ c8; subst c8; rw [if_neg Bool.false_ne_true] at H; replace H := aM_ H; go_wp2
   go_loopg [20] kj1 (fun kq v20 w' => ∃ (x20_2 : Int), v20 = .int .i64 x20_2 ∧ As_ (isa_Name2.l0 kq a0 (a0.size : Int) x20_2 = some r) ∧ As_ (kq ≤ kj1) ∧ Dr_ w w')
   case atStart => exact ⟨(0), eQ_, H, ⟨Nat.le_refl _⟩, dR_⟩
   case round =>
    clear H; obtain ⟨x20_2, rfl, HA, HK2, ⟨m2, rfl⟩⟩ := hrel
    cases gk with
    | zero => exact absurd HA.out (by simp [isa_Name2.l0])
    | succ k2 =>
     have H := HA.out; clear HA; simp only [isa_Name2.l0] at H
     by_cases c9 : x20_2 < (a0.size : Int)
     ·rw [if_pos c9] at H; have c9b0 := dE_ c9; clear c9
      by_cases c10 : 0 ≤ x20_2
      ·rw [if_pos c10] at H; have c10b0 := dE_ c10; clear c10
       by_cases c11 : x20_2 < (a0.size : Int)
       ·rw [if_pos c11] at H; have c11b0 := dE_ c11; clear c11; have HC13 := aM_ H; clear H; have p12 : 0 ≤ (x20_2 : Int) := oD_; have q12 : x20_2 < (a0.size : Int) := oD_; have hx12 := bt_at a0 x20_2; replace p12 := eq_true p12; replace q12 := eq_true q12
        go_upto_region 7 with (fail)
        go_cut [36] (fun v36 wc => ∃ (kq : Nat) (x36_12 : Bool), v36 = .bool x36_12 ∧ As_ (isa_Name2.j2 kq a0 (a0.size : Int) x20_2 x36_12 = some r) ∧ As_ (kq ≤ k2) ∧ Dr_ w wc)
        case first =>
         have H := HC13.out; clear HC13; obtain ⟨t102, A14, H⟩ := oB_ H
         by_cases c15 : t102 = true
         ·subst c15; rw [if_pos rfl] at H; replace H := aM_ H
          go_wp2_with (first | ((with_reducible refine gC_ (f := 126) rfl ?_); refine gL_ (some 27) Try.func126 #[.int .u8 (bt a0 x20_2)] rfl ?_; (with_reducible refine (isa_letter.calls (bt a0 x20_2) true _ A14.out).mono ?_); rintro e w' ⟨rfl, ⟨nd, rfl⟩⟩; refine ⟨_, rfl, ?_⟩))
          go_meet
          case rel => exact ⟨_, (false), eQ_, H, ⟨by have := HJ1.out; have := HK2.out; first | omega | exact Nat.le_refl _⟩, dR_⟩
         replace c15 := eF_ c15; subst c15; rw [if_neg Bool.false_ne_true] at H
         by_cases c16 : (bt a0 x20_2) < 48
         ·rw [if_pos c16] at H; have c16b0 := dE_ c16; clear c16
          (first | rw [c16b0] | (simp only [i64_w, i32_w]; rw [c16b0]) | skip)
          replace H := aM_ H
          go_wp2_with (first | ((with_reducible refine gC_ (f := 126) rfl ?_); refine gL_ (some 27) Try.func126 #[.int .u8 (bt a0 x20_2)] rfl ?_; (with_reducible refine (isa_letter.calls (bt a0 x20_2) false _ A14.out).mono ?_); rintro e w' ⟨rfl, ⟨nd, rfl⟩⟩; refine ⟨_, rfl, ?_⟩))
          go_meet
          case rel => exact ⟨_, (true), eQ_, H, ⟨by have := HJ1.out; have := HK2.out; first | omega | exact Nat.le_refl _⟩, dR_⟩
         rw [if_neg c16] at H; have c16b0 := dF_ c16; clear c16
         (first | rw [c16b0] | (simp only [i64_w, i32_w]; rw [c16b0]) | skip)
         replace H := aM_ H
         go_wp2_with (first | ((with_reducible refine gC_ (f := 126) rfl ?_); refine gL_ (some 27) Try.func126 #[.int .u8 (bt a0 x20_2)] rfl ?_; (with_reducible refine (isa_letter.calls (bt a0 x20_2) false _ A14.out).mono ?_); rintro e w' ⟨rfl, ⟨nd, rfl⟩⟩; refine ⟨_, rfl, ?_⟩))
         go_meet
         case rel => exact ⟨_, (decide ((bt a0 x20_2) > 57)), eQ_, H, ⟨by have := HJ1.out; have := HK2.out; first | omega | exact Nat.le_refl _⟩, dR_⟩
        case rest =>
         clear HC13; obtain ⟨kq, x36_12, rfl, HA, HJ12, ⟨mc12, rfl⟩⟩ := hcut
         cases kq with
         | zero => exact absurd HA.out (by simp [isa_Name2.j2])
         | succ kj12 =>
          have H := HA.out; clear HA; simp only [isa_Name2.j2] at H
          by_cases c17 : x36_12 = true
          ·subst c17; rw [if_pos rfl] at H; obtain rfl := oI_ H; go_wp2; go_ret; exact ⟨eQ_, dR_⟩
          replace c17 := eF_ c17; subst c17; rw [if_neg Bool.false_ne_true] at H; replace H := aM_ H; go_wp2
          go_roundg kj12
          case measure => have := HJ1.out; have := HK2.out; have := HJ12.out; omega
          case rel => exact ⟨(wrap64 (x20_2 + 1)), eQ_, H, ⟨by have := HJ1.out; have := HK2.out; have := HJ12.out; omega⟩, dR_⟩
       rw [if_neg c11] at H; exact absurd H (by simp)
      rw [if_neg c10] at H; exact absurd H (by simp)
     rw [if_neg c9] at H; have c9b0 := dF_ c9; clear c9; obtain rfl := oI_ H; go_wp2; go_ret; exact ⟨eQ_, dR_⟩
def isa_Target.f (a0 : Int) : Option (Bool) := if a0 = 8 then (some true) else (some (a0 == 9))
theorem isa_Target.calls (a0 : Int) (r : Bool) (w : World) (h : isa_Target.f a0 = some r) :
    Calls Try.prog 117 #[.int .i64 a0] w fun e w' => e = .returned (.bool r) ∧ Dr_ w w' := by
 have H : (if a0 = 8 then (some true) else (some (a0 == 9))) = some r := h; clear h
 by_cases c2 : a0 = 8
 ·rw [if_pos c2] at H; have c2b0 := bH_ c2; have c2b1 := bF_ c2; clear c2; obtain rfl := oI_ H; go_enter Try.func117, Try.ntmps117; go_wp2; go_ret; exact ⟨eQ_, dR_⟩
 rw [if_neg c2] at H; have c2b0 := bE_ c2; have c2b1 := bG_ c2; obtain rfl := oI_ H; go_enter Try.func117, Try.ntmps117; go_wp2; go_ret; exact ⟨eQ_, dR_⟩
mutual
def isa_Bits.j0 : Nat → Int → Bool → Option (Int)
  | 0, _, _ => none
  | k + 1, x3, x4 => if x4 = true then (some 14) else (if x3 = 4 then (isa_Bits.j1 k (x3 == 4)) else (isa_Bits.j1 k (x3 == 8)))
def isa_Bits.j1 : Nat → Bool → Option (Int)
  | 0, _ => none
  | k + 1, x8 => if x8 = true then (some 18) else (some 0)
end
def isa_Bits.f (k : Nat) (a0 : Int) : Option (Int) := if a0 = 3 then (isa_Bits.j0 k a0 (a0 == 3)) else (if a0 = 5 then (isa_Bits.j0 k a0 (a0 == 5)) else (isa_Bits.j0 k a0 (a0 == 9)))
theorem isa_Bits.mono_l : ∀ k, (∀ y0 y1, LeO (isa_Bits.j0 k y0 y1) (isa_Bits.j0 (k + 1) y0 y1)) ∧ (∀ y0, LeO (isa_Bits.j1 k y0) (isa_Bits.j1 (k + 1) y0))
  | 0 => ⟨fun _ _ r h => by simp [isa_Bits.j0] at h, fun _ r h => by simp [isa_Bits.j1] at h⟩
  | k + 1 => by
    obtain ⟨ih0, ih1⟩ := isa_Bits.mono_l k; refine ⟨?_, ?_⟩
    · intro y0 y1; unfold isa_Bits.j0
      repeat' first
      | (with_reducible exact ih0 _ _)
      | (with_reducible exact ih1 _)
      | (with_reducible exact LeO.refl _)
      | (with_reducible exact LeO.none _)
      | (with_reducible refine LeO.ite ?_ ?_)
      | (with_reducible refine LeO.bind ?_ (fun _ => ?_))
      | exact LeO.none _
      | refine LeO.ite ?_ ?_
      | refine LeO.bind ?_ (fun _ => ?_)
    · intro y0; unfold isa_Bits.j1
      repeat' first
      | (with_reducible exact ih0 _ _)
      | (with_reducible exact ih1 _)
      | (with_reducible exact LeO.refl _)
      | (with_reducible exact LeO.none _)
      | (with_reducible refine LeO.ite ?_ ?_)
      | (with_reducible refine LeO.bind ?_ (fun _ => ?_))
      | exact LeO.none _
      | refine LeO.ite ?_ ?_
      | refine LeO.bind ?_ (fun _ => ?_)
theorem isa_Bits.mono : ∀ a0 k, LeO (isa_Bits.f k a0) (isa_Bits.f (k + 1) a0) := by
 intro a0 k; obtain ⟨ih0, ih1⟩ := isa_Bits.mono_l k; unfold isa_Bits.f
 repeat' first
  | (with_reducible exact ih0 _ _)
  | (with_reducible exact ih1 _)
  | (with_reducible exact LeO.refl _)
  | (with_reducible exact LeO.none _)
  | (with_reducible refine LeO.ite ?_ ?_)
  | (with_reducible refine LeO.bind ?_ (fun _ => ?_))
  | exact LeO.none _
  | refine LeO.ite ?_ ?_
  | refine LeO.bind ?_ (fun _ => ?_)
theorem isa_Bits.calls (k : Nat) (a0 : Int) (r : Int) (w : World) (h : isa_Bits.f k a0 = some r) :
    Calls Try.prog 118 #[.int .i64 a0] w fun e w' => e = .returned (.int .i64 r) ∧ Dr_ w w' := by
 have H : (if a0 = 3 then (isa_Bits.j0 k a0 (a0 == 3)) else (if a0 = 5 then (isa_Bits.j0 k a0 (a0 == 5)) else (isa_Bits.j0 k a0 (a0 == 9)))) = some r := h; clear h; have HC2 := aM_ H; clear H; go_enter Try.func118, Try.ntmps118
 go_upto_if 4 with (fail)
 go_cut [4] (fun v4 wc => ∃ (kq : Nat) (x4_1 : Bool), v4 = .bool x4_1 ∧ As_ (isa_Bits.j0 kq a0 x4_1 = some r) ∧ As_ (kq ≤ k) ∧ Dr_ w wc)
 case first =>
  have H := HC2.out; clear HC2
  by_cases c3 : a0 = 3
  ·rw [if_pos c3] at H; have c3b0 := bH_ c3; have c3b1 := bF_ c3; clear c3
   (first | rw [c3b0] | (simp only [i64_w, i32_w]; rw [c3b0]) | skip)
   replace H := aM_ H; go_wp2
   go_meet
   case rel => exact ⟨_, ((a0 == 3)), eQ_, H, ⟨by first | omega | exact Nat.le_refl _⟩, dR_⟩
  rw [if_neg c3] at H; have c3b0 := bE_ c3; have c3b1 := bG_ c3
  (first | rw [c3b0] | (simp only [i64_w, i32_w]; rw [c3b0]) | skip)
  by_cases c4 : a0 = 5
  ·rw [if_pos c4] at H; have c4b0 := bH_ c4; have c4b1 := bF_ c4; clear c4; replace H := aM_ H; go_wp2
   go_meet
   case rel => exact ⟨_, ((a0 == 5)), eQ_, H, ⟨by first | omega | exact Nat.le_refl _⟩, dR_⟩
  rw [if_neg c4] at H; have c4b0 := bE_ c4; have c4b1 := bG_ c4; replace H := aM_ H; go_wp2
  go_meet
  case rel => exact ⟨_, ((a0 == 9)), eQ_, H, ⟨by first | omega | exact Nat.le_refl _⟩, dR_⟩
 case rest =>
  clear HC2; obtain ⟨kq, x4_1, rfl, HA, HJ1, ⟨mc1, rfl⟩⟩ := hcut
  cases kq with
  | zero => exact absurd HA.out (by simp [isa_Bits.j0])
  | succ kj1 =>
   have H := HA.out; clear HA; simp only [isa_Bits.j0] at H
   by_cases c5 : x4_1 = true
   ·subst c5; rw [if_pos rfl] at H; obtain rfl := oI_ H; go_wp2; go_ret; exact ⟨eQ_, dR_⟩
   replace c5 := eF_ c5; subst c5; rw [if_neg Bool.false_ne_true] at H; have HC6 := aM_ H; clear H
   go_upto_if 8 with (fail)
   go_cut [8] (fun v8 wc => ∃ (kq : Nat) (x8_5 : Bool), v8 = .bool x8_5 ∧ As_ (isa_Bits.j1 kq x8_5 = some r) ∧ As_ (kq ≤ kj1) ∧ Dr_ w wc)
   case first =>
    have H := HC6.out; clear HC6
    by_cases c7 : a0 = 4
    ·rw [if_pos c7] at H; have c7b0 := bH_ c7; have c7b1 := bF_ c7; clear c7
     (first | rw [c7b0] | (simp only [i64_w, i32_w]; rw [c7b0]) | skip)
     replace H := aM_ H; go_wp2
     go_meet
     case rel => exact ⟨_, ((a0 == 4)), eQ_, H, ⟨by have := HJ1.out; first | omega | exact Nat.le_refl _⟩, dR_⟩
    rw [if_neg c7] at H; have c7b0 := bE_ c7; have c7b1 := bG_ c7
    (first | rw [c7b0] | (simp only [i64_w, i32_w]; rw [c7b0]) | skip)
    replace H := aM_ H; go_wp2
    go_meet
    case rel => exact ⟨_, ((a0 == 8)), eQ_, H, ⟨by have := HJ1.out; first | omega | exact Nat.le_refl _⟩, dR_⟩
   case rest =>
    clear HC6; obtain ⟨kq, x8_5, rfl, HA, HJ5, ⟨mc5, rfl⟩⟩ := hcut
    cases kq with
    | zero => exact absurd HA.out (by simp [isa_Bits.j1])
    | succ kj5 =>
     have H := HA.out; clear HA; simp only [isa_Bits.j1] at H
     by_cases c8 : x8_5 = true
     ·subst c8; rw [if_pos rfl] at H; obtain rfl := oI_ H; go_wp2; go_ret; exact ⟨eQ_, dR_⟩
     replace c8 := eF_ c8; subst c8; rw [if_neg Bool.false_ne_true] at H; obtain rfl := oI_ H; go_wp2; go_ret; exact ⟨eQ_, dR_⟩
def word_Within.f (a0 : Int) (a1 : Int) : Option (Bool) := if 0 ≤ (wrap64 (a1 - 1)) then (if a0 ≥ (shl .i64 (-1) (wrap64 (a1 - 1))) then (some (decide (a0 < (shl .i64 1 (wrap64 (a1 - 1)))))) else (some false)) else (none)
theorem word_Within.calls (a0 : Int) (a1 : Int) (r : Bool) (w : World) (h : word_Within.f a0 a1 = some r) :
    Calls Try.prog 119 #[.int .i64 a0, .int .i64 a1] w fun e w' => e = .returned (.bool r) ∧ Dr_ w w' := by
 have H : (if 0 ≤ (wrap64 (a1 - 1)) then (if a0 ≥ (shl .i64 (-1) (wrap64 (a1 - 1))) then (some (decide (a0 < (shl .i64 1 (wrap64 (a1 - 1)))))) else (some false)) else (none)) = some r := h; clear h; obtain ⟨ji3, hji3⟩ : ∃ j_ : Int, (wrap64 (a1 - 1)) = j_ := ⟨_, rfl⟩
 replace H : (if 0 ≤ (ji3) then (if a0 ≥ (shl .i64 (-1) (ji3)) then (some (decide (a0 < (shl .i64 1 (ji3))))) else (some false)) else (none)) = some r := by first | (rw [hji3] at H; exact H) | (simp only [hji3] at H ⊢; exact H)
 have hji3w : (IntKind.i64.wrap (a1 - 1)) = ji3 := (i64_w _).trans hji3
 by_cases c4 : 0 ≤ (ji3)
 ·rw [if_pos c4] at H; have c4b0 := eq_true c4; have c4b1 := dE_ c4; clear c4; obtain ⟨ji5, hji5⟩ : ∃ j_ : Int, (shl .i64 (-1) (ji3)) = j_ := ⟨_, rfl⟩
  replace H : (if a0 ≥ (ji5) then (some (decide (a0 < (shl .i64 1 (ji3))))) else (some false)) = some r := by first | (rw [hji5] at H; exact H) | (simp only [hji5] at H ⊢; exact H)
  have hji5_ : (IntKind.i64.wrap ((-1) * 2 ^ min (ji3).toNat 64)) = ji5 := hji5; have hji5z : (ji3) ≤ 64 → (IntKind.i64.wrap ((-1) * 2 ^ (ji3).toNat)) = ji5 := shl_small hji5; have hji5U : (IntKind.i64.wrap (-2 ^ min (ji3).toNat 64)) = ji5 := by have h_ := hji5_; rw [Int.neg_mul, Int.one_mul] at h_; exact h_
  have hji5V : (wrap64 (-2 ^ min (ji3).toNat 64)) = ji5 := (i64_w _).symm.trans hji5U; have hji5y : (wrap64 ((-1) * 2 ^ min (ji3).toNat 64)) = ji5 := (i64_w _).symm.trans hji5_; have hji5x : (ji3) ≤ 64 → (wrap64 ((-1) * 2 ^ (ji3).toNat)) = ji5 := fun h_ => (i64_w _).symm.trans (hji5z h_)
  by_cases c6 : a0 ≥ (ji5)
  ·rw [if_pos c6] at H; have c6b0 := dE_ c6; clear c6; have c7b0 := eq_true (oD_ : 0 ≤ (ji3)); obtain ⟨ji8, hji8⟩ : ∃ j_ : Int, (shl .i64 1 (ji3)) = j_ := ⟨_, rfl⟩
   replace H : (some (decide (a0 < (ji8)))) = some r := by first | (rw [hji8] at H; exact H) | (simp only [hji8] at H ⊢; exact H)
   have hji8_ : (IntKind.i64.wrap (1 * 2 ^ min (ji3).toNat 64)) = ji8 := hji8; have hji8z : (ji3) ≤ 64 → (IntKind.i64.wrap (1 * 2 ^ (ji3).toNat)) = ji8 := shl_small hji8; have hji8u : (IntKind.i64.wrap (2 ^ min (ji3).toNat 64)) = ji8 := by have h_ := hji8_; rw [Int.one_mul] at h_; exact h_
   have hji8v : (ji3) ≤ 64 → (IntKind.i64.wrap (2 ^ (ji3).toNat)) = ji8 := fun hle_ => by have h_ := hji8z hle_; rw [Int.one_mul] at h_; exact h_
   have hji8y : (wrap64 (1 * 2 ^ min (ji3).toNat 64)) = ji8 := (i64_w _).symm.trans hji8_; have hji8x : (ji3) ≤ 64 → (wrap64 (1 * 2 ^ (ji3).toNat)) = ji8 := fun h_ => (i64_w _).symm.trans (hji8z h_); obtain rfl := oI_ H; go_enter Try.func119, Try.ntmps119; go_wp2; go_ret; exact ⟨by first | rfl | (simp; done) | (simp only [← hji3, ← hji5, ← hji8] <;> (first | rfl | simp)) | (simp [*]; done) | (congr 1; rw [Bool.eq_iff_iff]; simp; done), dR_⟩
  rw [if_neg c6] at H; have c6b0 := dF_ c6; clear c6; obtain rfl := oI_ H; go_enter Try.func119, Try.ntmps119; go_wp2; go_ret; exact ⟨by first | rfl | (simp; done) | (simp only [← hji3, ← hji5] <;> (first | rfl | simp)) | (simp [*]; done) | (congr 1; rw [Bool.eq_iff_iff]; simp; done), dR_⟩
 rw [if_neg c4] at H; exact absurd H (by simp)
end
end Go.Proofs.Ytibfkkjkahpobaa.PDag
