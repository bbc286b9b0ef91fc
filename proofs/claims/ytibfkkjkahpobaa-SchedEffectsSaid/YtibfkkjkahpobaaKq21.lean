import Derived.Test.YtibfkkjkahpobaaKq20
import Derived.Test.YtibfkkjkahpobaaKq15
import Derived.Test.YtibfkkjkahpobaaKq16
set_option linter.unusedVariables false
set_option linter.unusedSimpArgs false
open Go.RowKit Go.Proofs.YtibfkkjkahpobaaW.PrintWords Go.Proofs.YtibfkkjkahpobaaW.PrintLast Go.Proofs.YtibfkkjkahpobaaW.PrintMore
section
namespace Go.Proofs.Ytibfkkjkahpobaa.PDag
open Go.RowKit Go.Shelf Go.Proofs.YtibfkkjkahpobaaW.PrintWords Go.Proofs.YtibfkkjkahpobaaW.PrintLast Go.Proofs.YtibfkkjkahpobaaW.PrintMore
attribute [local go_sem] Oper.semAt_some
def Row (base : Nat) (W : World) (g cap n : Nat) (hs : List Int) : Prop := hs.length = n ∧ (Kd.int .i64).R 3 W base (fun k => k = g) (.slice (some ⟨g, 0, none⟩) n cap) hs
theorem Row.step {base : Nat} {W W1 : World} {g cap n : Nat} {hs : List Int} (h : Row base W g cap n hs) (hm : W1.heap[g]? = W.heap[g]?) : Row base W1 g cap n hs :=
  ⟨h.1, Kd.R_step h.2 (fun k hk _ => by subst hk; exact hm)⟩
theorem Row.lt {base : Nat} {W : World} {g cap n : Nat} {hs : List Int} (h : Row base W g cap n hs) : g < W.heap.size := Kd.R_lt h.2 g rfl
theorem Row.ge {base : Nat} {W : World} {g cap n : Nat} {hs : List Int} (h : Row base W g cap n hs) : base ≤ g := Kd.R_base h.2 g rfl
theorem Row.cell {base : Nat} {W : World} {g cap n : Nat} {hs : List Int} (h : Row base W g cap n hs) (i : Int) (h0 : 0 ≤ i) (h1 : i < n) : W.cell? ⟨g, i.toNat, none⟩ = some (.int .i64 (rd hs i)) ∧ W.frozen? ⟨g, i.toNat, none⟩ = false := by
  obtain ⟨rfl, h2⟩ := h
  exact Kd.R_cell 0 h2 i h0 h1
theorem Row.put {base : Nat} {W : World} {g cap n : Nat} {hs : List Int} (h : Row base W g cap n hs) (i x : Int) : Row base (W.setCell ⟨g, i.toNat, none⟩ (.int .i64 x)) g cap n (hs.set i.toNat x) := by
  obtain ⟨rfl, h2⟩ := h
  exact ⟨by simp, (Kd.R_put h2 i x).1⟩
theorem Row.putN {base : Nat} {W : World} {g cap n : Nat} {hs : List Int} (h : Row base W g cap n hs) (j : Nat) (x : Int) : Row base (W.setCell ⟨g, j, none⟩ (.int .i64 x)) g cap n (hs.set j x) := by
  have h_ := h.put (j : Int) x
  rwa [Int.toNat_natCast] at h_
theorem Row.cells {base : Nat} {W : World} {g cap n : Nat} {hs : List Int} (h : Row base W g cap n hs) : ∃ cells, W.heap[g]? = some (.cells cells 3 (0, 0)) := by
  obtain ⟨rfl, _, inner, h2, _⟩ := h
  exact own_typed h2 g rfl
theorem Row.shape {base n0 : Nat} {W : World} {ok : Nat → Prop} {v : Value} {xs : List Int} (h : (Kd.int .i64).R 3 W base ok v xs) (hn : ∃ b, v.ownBlock = some b ∧ n0 ≤ b) : ∃ g cap, v = .slice (some ⟨g, 0, none⟩) xs.length cap ∧ n0 ≤ g ∧ Row base W g cap xs.length xs := by
  obtain ⟨b, hb, hle⟩ := hn
  obtain ⟨hok, inner, ho, hr⟩ := h
  rcases ho.2 with ⟨rfl, _⟩ | ⟨g, cap, cur, rfl, _⟩
  · simp [Value.ownBlock] at hb
  · have hg : g = b := by simpa [Value.ownBlock] using hb
    subst hg
    refine ⟨g, cap, rfl, hle, rfl, ?_, inner, ho, hr.imp_ ?_⟩
    · intro k hk; simpa [Value.ownBlock] using hk.symm
    · intro x cs hx; exact hx
def dag_High.step (h : List Int) (x : S51) : Option (List Int) :=
  if 0 ≤ x.f0 ∧ x.f0 < h.length ∧ 0 ≤ x.f1 ∧ x.f1 < h.length then some (h.set x.f0.toNat (max (rd h x.f0) (wrap64 (x.f2 + rd h x.f1)))) else none
def dag_High.init (k : Nat) : List S24 → Option (List Int)
  | [] => some []
  | x :: xs => (isa_Late.f k x.f0).bind fun v => (dag_High.init k xs).bind fun r => some (v :: r)
def dag_High.f (k : Nat) (l : List S24) (es : List S51) : Option (List Int) := if l.length ≤ 35184372088832 then (dag_High.init k l).bind fun h => es.reverse.foldlM dag_High.step h else none
theorem dag_High.init_at (k : Nat) : ∀ (l : List S24) (h0 : List Int), dag_High.init k l = some h0 → h0.length = l.length ∧ ∀ j : Nat, j < l.length → isa_Late.f k (q24 l j).f0 = some (rd h0 j)
  | [], h0, h => by
    simp only [dag_High.init, Option.some.injEq] at h
    subst h
    exact ⟨rfl, fun j hj => absurd hj (Nat.not_lt_zero _)⟩
  | x :: xs, h0, h => by
    simp only [dag_High.init] at h
    obtain ⟨v, hv, h⟩ := Option.bind_eq_some_iff.mp h
    obtain ⟨r, hr, h⟩ := Option.bind_eq_some_iff.mp h
    obtain rfl := Option.some.inj h
    obtain ⟨h1, h2⟩ := dag_High.init_at k xs r hr
    refine ⟨by simp [h1], fun j hj => ?_⟩
    cases j with
    | zero => simpa [q24, rd] using hv
    | succ j => simpa [q24, rd] using h2 j (by simpa using hj)
theorem dag_High.set_at (h0 : List Int) (n j : Nat) (hn : h0.length = n) (hj : j < n) : (h0.take j ++ List.replicate (n - j) 0).set j (rd h0 j) = h0.take (j + 1) ++ List.replicate (n - (j + 1)) 0 := by
  subst hn
  apply List.ext_getElem
  · simp; omega
  · intro i h1 h2
    rw [List.getElem_set]
    by_cases e : j = i
    · subst e
      rw [if_pos rfl, List.getElem_append_left (by simp; omega)]
      simp [rd, hj]
    · rw [if_neg e]
      by_cases hi : i < j
      · rw [List.getElem_append_left (by simp; omega), List.getElem_append_left (by simp; omega)]
        simp
      · rw [List.getElem_append_right (by simp; omega), List.getElem_append_right (by simp; omega)]
        simp
theorem dag_High.range : ∀ (es : List S51) (h r : List Int), es.foldlM dag_High.step h = some r → (∀ x ∈ es, 0 ≤ x.f0 ∧ x.f0 < h.length ∧ 0 ≤ x.f1 ∧ x.f1 < h.length)
  | [], h, r, _ => by simp
  | x :: es, h, r, hf => by
    rw [List.foldlM_cons] at hf
    obtain ⟨h1, hs, hf⟩ := Option.bind_eq_some_iff.mp hf
    unfold dag_High.step at hs
    split at hs
    · rename_i hc
      have h2 := dag_High.range es h1 r hf
      have hl : h1.length = h.length := by rw [← Option.some.inj hs]; simp
      rw [hl] at h2
      intro y hy
      rcases List.mem_cons.1 hy with rfl | hy
      · exact hc
      · exact h2 y hy
    · exact absurd hs (by simp)
theorem comes_mem (es : List S51) (j : Nat) (hj : j < es.length) : comes es j ∈ es.reverse := by
  unfold comes q51
  rw [show ((es.length : Int) - 1 - j).toNat = es.length - 1 - j by omega, List.getD_eq_getElem?_getD, List.getElem?_eq_getElem (by omega)]
  simp
theorem own_blk {B : Nat} {X Y : World} {row : Option Nat} {b t : Nat} {cs : Array Value} (hb : X.heap[b]? = some (.cells cs t (0, 0))) (hg : X.grownBy Y row) (hr : ∀ r, row = some r → B ≤ r ∧ ∃ o : Obj, X.heap[r]? = some o ∧ o.isCells = false) : Y.heap[b]? = X.heap[b]? :=
  hg.block b (blk_lt hb) (fun e => by obtain ⟨_, o, ho, hc⟩ := hr b e.symm; rw [hb] at ho; cases ho; cases hc)
set_option maxRecDepth 100000 in
set_option maxHeartbeats 4000000 in
theorem dag_High.calls (k : Nat) (A0 : Option Addr) (c0 : Nat) (l0 : List S24) (A1 : Option Addr) (c1 : Nat) (l1 : List S51) (r : List Int) (w : World) (hr0 : Kd.C k24 w A0 l0.length l0) (hc0 : l0.length ≤ c0) (hr1 : Kd.C k51 w A1 l1.length l1) (hc1 : l1.length ≤ c1) (h : dag_High.f k l0 l1 = some r) :
    Calls Try.prog 57 #[.slice A0 l0.length c0, .slice A1 l1.length c1] w fun e w' => ∃ v0_ : Value, e = .returned (v0_) ∧ Kd.R (Kd.int .i64) 3 w' w.heap.size (fun _ => True) v0_ r ∧ Below w.heap.size w w' := by
  have hu24 := Try.underlying24
  have hu51 := Try.underlying51
  unfold dag_High.f at h
  by_cases hlen : l0.length ≤ 35184372088832
  · rw [if_pos hlen] at h
    obtain ⟨h0, hi, hf⟩ := Option.bind_eq_some_iff.mp h
    have Hi := As_.mk hi
    have Hf := As_.mk hf
    clear h hi hf
    refine callsIn_wide.1 (callsIn_of_wp_marks (n := 5) Try.func57 rfl trivial ?_ rfl)
    refine wpIn_wide.2 ?_
    simp only [Try.ntmps57, List.size_toArray, List.length_cons, List.length_nil, Nat.reduceAdd, Nat.reduceSub, Array.replicate_succ, Array.replicate_zero, List.push_toArray, List.append_toArray, List.nil_append, List.cons_append]
    have HM := As_.mk hlen
    have HB := As_.mk (Below.refl w.heap.size w)
    go_wp2_with (first | ((with_reducible refine gate_dst (N := 12) rfl ?_); refine Kd.R_make (Kd.int .i64) _ 3 rfl (N := 12) rfl 25 _ _ rfl (l0.length : Int) rfl rfl Try.underlying25 (.int .i64 0) 8 info3 rfl (by decide) (by omega) 0 (ok := fun k => w.heap.size ≤ k) (okp := fun k => w.heap.size ≤ k) rfl (fun _ hk => hk) (Nat.le_refl _) (Int.natCast_nonneg _) (by have := HM.out; omega) (Below.refl _ _) (Nat.le_refl _) ?_; intro v12 w5 ho6 hb hg_ hnew_; obtain ⟨g4, cap4, e4, hg4, hRow⟩ := Row.shape ho6 hnew_; subst e4; simp only [List.length_replicate, Int.toNat_natCast] at hRow ⊢; have HO := As_.mk hRow; have HB1 := As_.mk hb; have HN := As_.mk hg4; clear ho6 hb hg_ hnew_ hg4 hRow) | ((with_reducible refine gate_dst (N := 5) rfl ?_); refine bX_ (N := 5) (cs := #[.slice none 0 0]) (t := 25) ?_; intro g5 hg w6 hbox hb; have hcb := (bC_ hbox 0).trans rfl; have hfb := bZ_ hbox 0; have BX := As_.mk hbox; have HG := As_.mk hg; have HB2 := As_.mk hb; clear hbox hg hb))
    obtain ⟨hl0, hlate⟩ := dag_High.init_at k l0 h0 Hi.out
    have hlt4 : g4 < w5.heap.size := HO.out.lt
    have hne45 : g4 ≠ g5 := by have := HG.out; omega
    go_loopw [15] (fun i wr => ∃ j : Nat, j ≤ l0.length ∧ i = .int .i64 j ∧ As_ (Row w.heap.size wr g4 cap4 l0.length (h0.take j ++ List.replicate (l0.length - j) 0)) ∧ As_ (wr.heap[g5]? = some (.cells #[.slice (some ⟨g4, 0, none⟩) l0.length cap4] 25 (0, 0))) ∧ As_ (Below w.heap.size w wr)) (fun i _ => l0.length - (intOf i).toNat)
    case atStart =>
      refine ⟨0, Nat.zero_le _, rfl, ⟨?_⟩, ⟨?_⟩, ⟨?_⟩⟩
      · simp only [List.take_zero, List.nil_append, Nat.sub_zero]
        exact HO.out.step (by rw [Below.heap_setCell _ _ _ _ hne45]; exact HB2.out.block g4 hlt4)
      · exact blk_put BX.out 0 _ rfl
      · exact (HB1.out.trans (HB2.out.mono HB1.out.size)).setCell (p := ⟨g5, 0, none⟩) (by show w.heap.size ≤ g5; have := HG.out; have := HB1.out.size; omega) _
    case round =>
      clear hcb hfb HO BX
      obtain ⟨j, hj, rfl, HO, BX, HB⟩ := hrel
      by_cases hlt : j < l0.length
      · have hla := As_.mk (hlate j hlt)
        clear hlate
        obtain ⟨ad, e1, hx0, hx1, hx2, hx3, hx4, hx5⟩ := at_T24 hr0 (j : Int) (Int.natCast_nonneg _) (by omega)
        subst e1
        rw [Int.toNat_natCast] at hx0 hx1 hx2 hx3 hx4 hx5
        replace hx0 := hC_ HB hx0
        replace hx1 := hC_ HB hx1
        replace hx2 := hC_ HB hx2
        replace hx3 := hC_ HB hx3
        replace hx4 := hC_ HB hx4
        replace hx5 := hC_ HB hx5
        have p1 : ((0 : Int) ≤ (j : Int)) = True := eq_true (Int.natCast_nonneg _)
        have q1 : ((j : Int) < (l0.length : Int)) = True := eq_true (by omega)
        have q2 : (j < l0.length) = True := eq_true hlt
        have bx : (wr.alloc (.cells #[.int .i64 0, .int .i64 0, .int .i64 0, .int .i64 0, .int .i64 0, .string (⟨#[]⟩ : ByteArray)] 24)).heap[wr.heap.size]? = some (.cells #[.int .i64 0, .int .i64 0, .int .i64 0, .int .i64 0, .int .i64 0, .string (⟨#[]⟩ : ByteArray)] 24 (0, 0)) := blk_new wr _
        have z0 := (bC_ bx 0).trans rfl
        have z1 := (bC_ bx 1).trans rfl
        have z2 := (bC_ bx 2).trans rfl
        have z3 := (bC_ bx 3).trans rfl
        have z4 := (bC_ bx 4).trans rfl
        have z5 := (bC_ bx 5).trans rfl
        have y0 := bZ_ bx 0
        have y1 := bZ_ bx 1
        have y2 := bZ_ bx 2
        have y3 := bZ_ bx 3
        have y4 := bZ_ bx 4
        have y5 := bZ_ bx 5
        clear bx
        have n5 : g5 ≠ wr.heap.size := by have := blk_lt BX.out; omega
        have n5' : wr.heap.size ≠ g5 := fun e => n5 e.symm
        have n4 : g4 ≠ wr.heap.size := by have := HO.out.lt; omega
        have n4' : wr.heap.size ≠ g4 := fun e => n4 e.symm
        go_wp2
        have bx := blk_new wr (.cells #[.int .i64 (q24 l0 (j : Int)).f0, .int .i64 (q24 l0 (j : Int)).f1, .int .i64 (q24 l0 (j : Int)).f2, .int .i64 (q24 l0 (j : Int)).f3, .int .i64 (q24 l0 (j : Int)).f4, .string (q24 l0 (j : Int)).f5] 24 (0, 0))
        have HO7 := As_.mk (HO.out.step (Below.heap_alloc wr (.cells #[.int .i64 (q24 l0 (j : Int)).f0, .int .i64 (q24 l0 (j : Int)).f1, .int .i64 (q24 l0 (j : Int)).f2, .int .i64 (q24 l0 (j : Int)).f3, .int .i64 (q24 l0 (j : Int)).f4, .string (q24 l0 (j : Int)).f5] 24 (0, 0)) g4 HO.out.lt))
        have BX7 := As_.mk (kA_ BX.out (.cells #[.int .i64 (q24 l0 (j : Int)).f0, .int .i64 (q24 l0 (j : Int)).f1, .int .i64 (q24 l0 (j : Int)).f2, .int .i64 (q24 l0 (j : Int)).f3, .int .i64 (q24 l0 (j : Int)).f4, .string (q24 l0 (j : Int)).f5] 24 (0, 0)))
        have HB7 := As_.mk (HB.out.alloc HB.out.size (.cells #[.int .i64 (q24 l0 (j : Int)).f0, .int .i64 (q24 l0 (j : Int)).f1, .int .i64 (q24 l0 (j : Int)).f2, .int .i64 (q24 l0 (j : Int)).f3, .int .i64 (q24 l0 (j : Int)).f4, .string (q24 l0 (j : Int)).f5] 24 (0, 0)))
        generalize hW7 : wr.alloc (.cells #[.int .i64 (q24 l0 (j : Int)).f0, .int .i64 (q24 l0 (j : Int)).f1, .int .i64 (q24 l0 (j : Int)).f2, .int .i64 (q24 l0 (j : Int)).f3, .int .i64 (q24 l0 (j : Int)).f4, .string (q24 l0 (j : Int)).f5] 24 (0, 0)) = W7 at bx HO7 BX7 HB7 ⊢
        clear hW7 z0 z1 z2 z3 z4 z5 y0 y1 y2 y3 y4 y5 hx0 hx1 hx2 hx3 hx4 hx5
        have x0 := (bC_ bx 0).trans rfl
        have b5 := (bC_ BX7.out 0).trans rfl
        have hR := HO7.out.cell (j : Int) (Int.natCast_nonneg _) (by omega)
        rw [Int.toNat_natCast] at hR
        obtain ⟨b4, b4'⟩ := hR
        clear bx
        refine wp_normal_only ?_
        unfold OnlyNormal
        go_region_with (go_at_call 92; (with_reducible refine (isa_Late.calls k (q24 l0 (j : Int)).f0 (rd h0 (j : Int)) _ hla.out).mono ?_); rintro e w' ⟨rfl, ⟨nd, rfl⟩⟩)
        all_goals (try dsimp only)
        all_goals go_wp2
        all_goals go_roundw
        all_goals first
          | (refine ⟨j + 1, by omega, by simp, ⟨?_⟩, ⟨?_⟩, ⟨?_⟩⟩
             · rw [← dag_High.set_at h0 l0.length j hl0 hlt]; exact Row.putN (HO7.out.step rfl) j _
             · rw [Below.heap_setCell _ _ _ _ hne45.symm]; exact BX7.out
             · refine Below.setCell (p := ⟨g4, j, none⟩) ?_ HN.out _
               repeat (first | exact HB7.out | apply bN_ | apply b1_))
          | (simp [intOf]; omega)
      · obtain rfl : j = l0.length := by omega
        have p1 : ((l0.length : Int) < (l0.length : Int)) = False := eq_false (by omega)
        simp only [Nat.sub_self, List.replicate_zero, List.append_nil, List.take_of_length_le (Nat.le_of_eq hl0)] at HO
        go_wp2_with (go_at_call 93; refine (callsIn_wide.1 (back_in Fence.wide 1 trivial rfl _ _ _ _)).mono ?_; rintro e w' ⟨rfl, rfl⟩)
        have hbe := blk_new wr (.cells #[.slice A1 l1.length c1] 31 (0, 0))
        have HO7 := As_.mk (HO.out.step (Below.heap_alloc wr (.cells #[.slice A1 l1.length c1] 31 (0, 0)) g4 HO.out.lt))
        have BX7 := As_.mk (kA_ BX.out (.cells #[.slice A1 l1.length c1] 31 (0, 0)))
        have HB7 := As_.mk (HB.out.alloc HB.out.size (.cells #[.slice A1 l1.length c1] 31 (0, 0)))
        have hlt5 := blk_lt BX.out
        have hsz : (wr.alloc (.cells #[.slice A1 l1.length c1] 31 (0, 0))).heap.size = wr.heap.size + 1 := by simp
        have hwr := HB.out.size
        obtain ⟨Be, hBe⟩ : ∃ Be, Be = wr.heap.size := ⟨_, rfl⟩
        rw [← hBe] at hbe hsz hlt5 ⊢
        generalize hW7 : wr.alloc (.cells #[.slice A1 l1.length c1] 31 (0, 0)) = W7 at hbe HO7 BX7 HB7 hsz ⊢
        have hrg := dag_High.range _ _ _ Hf.out
        refine wpIn_wide.1 (wpIn_rangeFunc_ownH (F := Fence.wide) (n := 5) rfl (by omega) (gf := 116) (lb := #[.pointer (some ⟨Be, 0, none⟩)]) rfl trivial (enters_of Try.func116 (by kernel_rfl) rfl)
          (back_stops Fence.wide (5 - 1) trivial rfl (by omega) Be A1 c1 l1 w W7 hr1 HB7.out hbe) (fun h k => KpB.t h k) (KpB.b HB7.out.size (by omega)) (Below.refl _ _) (fun _ => rfl)
          (fun pre W => (∃ hs, (pre.map (fun j : Fin l1.length => comes l1 j.1)).foldlM dag_High.step h0 = some hs ∧ Row w.heap.size W g4 cap4 l0.length hs) ∧ W.heap[g5]? = some (.cells #[.slice (some ⟨g4, 0, none⟩) l0.length cap4] 25 (0, 0)) ∧ W.heap[Be]? = some (.cells #[.slice A1 l1.length c1] 31 (0, 0)) ∧ Below w.heap.size w W)
          (fun _ _ _ => False)
          ?hI (fun _ _ _ _ _ hs _ _ => hs) ⟨⟨h0, rfl, HO7.out⟩, BX7.out, hbe, HB7.out⟩
          (fun x a' W => ∃ Bx, Be < Bx ∧ W.heap[Bx]? = some (.cells #[.int .i64 (comes l1 x.1).f0, .int .i64 (comes l1 x.1).f1, .int .i64 (comes l1 x.1).f2] 51 (0, 0)) ∧
            a' = { tmps := (Value.slice A0 l0.length c0 :: Value.slice A1 l1.length c1 :: undef :: undef :: Value.slice none 0 0 :: Value.pointer (some ⟨g5, 0, none⟩) :: u6 :: u7 :: undef :: Value.pointer (some ⟨Bx, 0, none⟩) :: Value.slice A0 l0.length c0 :: Value.int .i64 l0.length :: Value.slice (some ⟨g4, 0, none⟩) l0.length cap4 :: Value.slice A0 l0.length c0 :: Value.int .i64 l0.length :: Value.int .i64 l0.length :: Value.bool false :: u17 :: u18 :: u19 :: u20 :: u21 :: u22 :: u23 :: u24 :: u25 :: u26 :: Value.slice A1 l1.length c1 :: Value.func (.func 116) #[] #[.pointer (some ⟨Be, 0, none⟩)] :: Value.int .i64 ((l1.length : Int) - 1 - (x.1 : Int)) :: Value.agg #[.int .i64 (comes l1 x.1).f0, .int .i64 (comes l1 x.1).f1, .int .i64 (comes l1 x.1).f2] :: undef :: undef :: undef :: undef :: undef :: undef :: undef :: undef :: undef :: undef :: undef :: undef :: undef :: undef :: undef :: undef :: undef :: undef :: undef :: []).toArray, defers := [] })
          ?hAx ?assign ?body ?done ?stop)
        case hI =>
          rintro pre X Y row ⟨⟨hs, e1, hR⟩, h5, he, hB⟩ hg hr
          obtain ⟨cs4, hc4⟩ := hR.cells
          exact ⟨⟨hs, e1, hR.step (own_blk hc4 hg hr)⟩, (own_blk h5 hg hr).trans h5, (own_blk he hg hr).trans he, hB.grown hg hB.size (fun k e => by have := (hr k e).1; omega)⟩
        case hAx =>
          rintro x a' _ X Y row ⟨Bx, h1, h2, h3⟩ hg hr
          exact ⟨Bx, h1, (own_blk h2 hg hr).trans h2, h3⟩
        case assign =>
          rintro l pre x W K ⟨⟨hs, e1, hR⟩, h5, he, hB⟩ hK
          have bx : (W.alloc (.cells #[.int .i64 0, .int .i64 0, .int .i64 0] 51)).heap[W.heap.size]? = some (.cells #[.int .i64 0, .int .i64 0, .int .i64 0] 51 (0, 0)) := blk_new W _
          have z0 := (bC_ bx 0).trans rfl
          have z1 := (bC_ bx 1).trans rfl
          have z2 := (bC_ bx 2).trans rfl
          have y0 := bZ_ bx 0
          have y1 := bZ_ bx 1
          have y2 := bZ_ bx 2
          clear bx
          gi_wp2
          exact hK _ _ ((KeepsOthers.alloc _ _).from _) ⟨(Below.refl _ W).alloc hB.size _, Below.heap_alloc W _ Be (blk_lt he)⟩ ⟨⟨hs, e1, hR.step (Below.heap_alloc W _ g4 hR.lt)⟩, kA_ h5 _, kA_ he _, hB.alloc hB.size _⟩ ⟨W.heap.size, blk_lt he, blk_new W _, by subst hBe; rfl⟩
        case body =>
          rintro l pre x a' W hl ⟨r', hr'⟩ ⟨⟨hs, e1, hR⟩, h5, he, hB⟩ ⟨Bx, hBx, hbx, rfl⟩ hlen'
          obtain ⟨r0, r1, r2, r3⟩ := hrg (comes l1 x.1) (comes_mem l1 x.1 x.2)
          rw [hl0] at r1 r3
          have x0 := (bC_ hbx 0).trans rfl
          have x1 := (bC_ hbx 1).trans rfl
          have x2 := (bC_ hbx 2).trans rfl
          have b5 := (bC_ h5 0).trans rfl
          obtain ⟨c0', c0f⟩ := hR.cell (comes l1 x.1).f0 r0 r1
          obtain ⟨c1', c1f⟩ := hR.cell (comes l1 x.1).f1 r2 r3
          have hput := As_.mk (hR.put (comes l1 x.1).f0 (max (rd hs (comes l1 x.1).f0) (wrap64 ((comes l1 x.1).f2 + rd hs (comes l1 x.1).f1))))
          have hne : g4 ≠ Be := by have := hR.lt; have := blk_lt he; have := HO.out.lt; omega
          clear hr' hl
          replace r0 := eq_true r0
          replace r1 := eq_true r1
          replace r2 := eq_true r2
          replace r3 := eq_true r3
          have hR' := As_.mk hR
          have h5' := As_.mk h5
          have he' := As_.mk he
          have hB' := As_.mk hB
          clear hR h5 he hB hbx
          gi_wp2
          refine startIn_ (n := 19) (S := fun w' => w'.cell? ⟨g5, 0, none⟩ = some (.slice (some ⟨g4, 0, none⟩) l0.length cap4) ∧ w'.cell? ⟨Bx, 0, none⟩ = some (.int .i64 (comes l1 x.1).f0) ∧ w'.cell? ⟨Bx, 1, none⟩ = some (.int .i64 (comes l1 x.1).f1) ∧ w'.cell? ⟨Bx, 2, none⟩ = some (.int .i64 (comes l1 x.1).f2) ∧ w'.cell? ⟨g4, (comes l1 x.1).f0.toNat, none⟩ = some (.int .i64 (rd hs (comes l1 x.1).f0)) ∧ w'.cell? ⟨g4, (comes l1 x.1).f1.toNat, none⟩ = some (.int .i64 (rd hs (comes l1 x.1).f1))) (ds := [18]) #[false, false, false, false, false, false, false, false, false, false, false, false, false, false, false, false, false, false, false] (by kernel_rfl) (by kernel_rfl) rfl rfl ⟨b5, x0, x1, x2, c0', c1'⟩ (fun hHeld => ?_)
          have f0' : W.drew.frozen? ⟨g4, (comes l1 x.1).f0.toNat, none⟩ = false := c0f
          have hput' : As_ (Row w.heap.size (W.drew.setCell ⟨g4, (comes l1 x.1).f0.toNat, none⟩ (.int .i64 (max (rd hs (comes l1 x.1).f0) (wrap64 ((comes l1 x.1).f2 + rd hs (comes l1 x.1).f1))))) g4 cap4 l0.length _) := ⟨hput.out.step rfl⟩
          have hd0 : ∀ b : Nat, W.drew.heap[b]? = W.heap[b]? := fun _ => rfl
          have hlow := As_.mk (below_drew (Below.refl w.heap.size W))
          have hkf := As_.mk ((KeepsOthers.drew W).from W7.heap.size)
          have hc0 := c0'
          clear c0f c1f hput
          replace c0' : W.drew.cell? ⟨g4, (comes l1 x.1).f0.toNat, none⟩ = _ := hc0
          clear hc0 x0 x1 x2 b5 c1'
          generalize W.drew = w2 at c0' f0' hput' hd0 hlow hkf hHeld ⊢
          refine take_ (i := 0) (N := (some 31)) (v := ?_) (a' := ?_) #[true, false, false, false, false, false, false, false, false, false, false, false, false, false, false, false, false, false, false] rfl rfl (by kernel_rfl) (fun _ _ _ h => h) (Or.inl ⟨by rfl, ?_⟩) hHeld ?_ ?_
          rotate_left
          · rintro w' ⟨s0, s1, s2, s3, s4, s5⟩
            go_simp
            with_reducible rfl
          rotate_left
          · simp only [Act.put, List.setIfInBounds_toArray, List.set_cons_zero, List.set_cons_succ, i64_w, i32_w]
            rfl
          refine pure_ (i := 1) (N := (some 32)) (v := ?_) (a' := ?_) #[true, true, false, false, false, false, false, false, false, false, false, false, false, false, false, false, false, false, false] rfl rfl (by kernel_rfl) (fun _ _ _ h => h) (Or.inl ⟨by rfl, ?_⟩) ?_ ?_
          rotate_left
          · intro w'
            go_simp
            with_reducible rfl
          rotate_left
          · simp only [Act.put, List.setIfInBounds_toArray, List.set_cons_zero, List.set_cons_succ, i64_w, i32_w]
            rfl
          refine take_ (i := 2) (N := (some 33)) (v := ?_) (a' := ?_) #[true, true, true, false, false, false, false, false, false, false, false, false, false, false, false, false, false, false, false] rfl rfl (by kernel_rfl) (fun _ _ _ h => h) (Or.inl ⟨by rfl, ?_⟩) hHeld ?_ ?_
          rotate_left
          · rintro w' ⟨s0, s1, s2, s3, s4, s5⟩
            go_simp
            with_reducible rfl
          rotate_left
          · simp only [Act.put, List.setIfInBounds_toArray, List.set_cons_zero, List.set_cons_succ, i64_w, i32_w]
            rfl
          refine take_ (i := 3) (N := (some 34)) (v := ?_) (a' := ?_) #[true, true, true, true, false, false, false, false, false, false, false, false, false, false, false, false, false, false, false] rfl rfl (by kernel_rfl) (fun _ _ _ h => h) (Or.inl ⟨by rfl, ?_⟩) hHeld ?_ ?_
          rotate_left
          · rintro w' ⟨s0, s1, s2, s3, s4, s5⟩
            go_simp
            with_reducible rfl
          rotate_left
          · simp only [Act.put, List.setIfInBounds_toArray, List.set_cons_zero, List.set_cons_succ, i64_w, i32_w]
            rfl
          refine pure_ (i := 4) (N := (some 35)) (v := ?_) (a' := ?_) #[true, true, true, true, true, false, false, false, false, false, false, false, false, false, false, false, false, false, false] rfl rfl (by kernel_rfl) (fun _ _ _ h => h) (Or.inl ⟨by rfl, ?_⟩) ?_ ?_
          rotate_left
          · intro w'
            go_simp
            with_reducible rfl
          rotate_left
          · simp only [Act.put, List.setIfInBounds_toArray, List.set_cons_zero, List.set_cons_succ, i64_w, i32_w]
            rfl
          refine take_ (i := 5) (N := (some 36)) (v := ?_) (a' := ?_) #[true, true, true, true, true, true, false, false, false, false, false, false, false, false, false, false, false, false, false] rfl rfl (by kernel_rfl) (fun _ _ _ h => h) (Or.inl ⟨by rfl, ?_⟩) hHeld ?_ ?_
          rotate_left
          · rintro w' ⟨s0, s1, s2, s3, s4, s5⟩
            go_simp
            with_reducible rfl
          rotate_left
          · simp only [Act.put, List.setIfInBounds_toArray, List.set_cons_zero, List.set_cons_succ, i64_w, i32_w]
            rfl
          refine pure_ (i := 6) (N := (some 37)) (v := ?_) (a' := ?_) #[true, true, true, true, true, true, true, false, false, false, false, false, false, false, false, false, false, false, false] rfl rfl (by kernel_rfl) (fun _ _ _ h => h) (Or.inl ⟨by rfl, ?_⟩) ?_ ?_
          rotate_left
          · intro w'
            go_simp
            with_reducible rfl
          rotate_left
          · simp only [Act.put, List.setIfInBounds_toArray, List.set_cons_zero, List.set_cons_succ, i64_w, i32_w]
            rfl
          refine take_ (i := 7) (N := (some 38)) (v := ?_) (a' := ?_) #[true, true, true, true, true, true, true, true, false, false, false, false, false, false, false, false, false, false, false] rfl rfl (by kernel_rfl) (fun _ _ _ h => h) (Or.inl ⟨by rfl, ?_⟩) hHeld ?_ ?_
          rotate_left
          · rintro w' ⟨s0, s1, s2, s3, s4, s5⟩
            go_simp
            with_reducible rfl
          rotate_left
          · simp only [Act.put, List.setIfInBounds_toArray, List.set_cons_zero, List.set_cons_succ, i64_w, i32_w]
            rfl
          refine pure_ (i := 8) (N := (some 39)) (v := ?_) (a' := ?_) #[true, true, true, true, true, true, true, true, true, false, false, false, false, false, false, false, false, false, false] rfl rfl (by kernel_rfl) (fun _ _ _ h => h) (Or.inl ⟨by rfl, ?_⟩) ?_ ?_
          rotate_left
          · intro w'
            go_simp
            with_reducible rfl
          rotate_left
          · simp only [Act.put, List.setIfInBounds_toArray, List.set_cons_zero, List.set_cons_succ, i64_w, i32_w]
            rfl
          refine take_ (i := 9) (N := (some 40)) (v := ?_) (a' := ?_) #[true, true, true, true, true, true, true, true, true, true, false, false, false, false, false, false, false, false, false] rfl rfl (by kernel_rfl) (fun _ _ _ h => h) (Or.inl ⟨by rfl, ?_⟩) hHeld ?_ ?_
          rotate_left
          · rintro w' ⟨s0, s1, s2, s3, s4, s5⟩
            go_simp
            with_reducible rfl
          rotate_left
          · simp only [Act.put, List.setIfInBounds_toArray, List.set_cons_zero, List.set_cons_succ, i64_w, i32_w]
            rfl
          refine take_ (i := 10) (N := (some 41)) (v := ?_) (a' := ?_) #[true, true, true, true, true, true, true, true, true, true, true, false, false, false, false, false, false, false, false] rfl rfl (by kernel_rfl) (fun _ _ _ h => h) (Or.inl ⟨by rfl, ?_⟩) hHeld ?_ ?_
          rotate_left
          · rintro w' ⟨s0, s1, s2, s3, s4, s5⟩
            go_simp
            with_reducible rfl
          rotate_left
          · simp only [Act.put, List.setIfInBounds_toArray, List.set_cons_zero, List.set_cons_succ, i64_w, i32_w]
            rfl
          refine pure_ (i := 11) (N := (some 42)) (v := ?_) (a' := ?_) #[true, true, true, true, true, true, true, true, true, true, true, true, false, false, false, false, false, false, false] rfl rfl (by kernel_rfl) (fun _ _ _ h => h) (Or.inl ⟨by rfl, ?_⟩) ?_ ?_
          rotate_left
          · intro w'
            go_simp
            with_reducible rfl
          rotate_left
          · simp only [Act.put, List.setIfInBounds_toArray, List.set_cons_zero, List.set_cons_succ, i64_w, i32_w]
            rfl
          refine take_ (i := 12) (N := (some 43)) (v := ?_) (a' := ?_) #[true, true, true, true, true, true, true, true, true, true, true, true, true, false, false, false, false, false, false] rfl rfl (by kernel_rfl) (fun _ _ _ h => h) (Or.inl ⟨by rfl, ?_⟩) hHeld ?_ ?_
          rotate_left
          · rintro w' ⟨s0, s1, s2, s3, s4, s5⟩
            go_simp
            with_reducible rfl
          rotate_left
          · simp only [Act.put, List.setIfInBounds_toArray, List.set_cons_zero, List.set_cons_succ, i64_w, i32_w]
            rfl
          refine pure_ (i := 13) (N := (some 44)) (v := ?_) (a' := ?_) #[true, true, true, true, true, true, true, true, true, true, true, true, true, true, false, false, false, false, false] rfl rfl (by kernel_rfl) (fun _ _ _ h => h) (Or.inl ⟨by rfl, ?_⟩) ?_ ?_
          rotate_left
          · intro w'
            go_simp
            with_reducible rfl
          rotate_left
          · simp only [Act.put, List.setIfInBounds_toArray, List.set_cons_zero, List.set_cons_succ, i64_w, i32_w]
            rfl
          refine take_ (i := 14) (N := (some 45)) (v := ?_) (a' := ?_) #[true, true, true, true, true, true, true, true, true, true, true, true, true, true, true, false, false, false, false] rfl rfl (by kernel_rfl) (fun _ _ _ h => h) (Or.inl ⟨by rfl, ?_⟩) hHeld ?_ ?_
          rotate_left
          · rintro w' ⟨s0, s1, s2, s3, s4, s5⟩
            go_simp
            with_reducible rfl
          rotate_left
          · simp only [Act.put, List.setIfInBounds_toArray, List.set_cons_zero, List.set_cons_succ, i64_w, i32_w]
            rfl
          refine pure_ (i := 15) (N := (some 46)) (v := ?_) (a' := ?_) #[true, true, true, true, true, true, true, true, true, true, true, true, true, true, true, true, false, false, false] rfl rfl (by kernel_rfl) (fun _ _ _ h => h) (Or.inl ⟨by rfl, ?_⟩) ?_ ?_
          rotate_left
          · intro w'
            go_simp
            with_reducible rfl
          rotate_left
          · simp only [Act.put, List.setIfInBounds_toArray, List.set_cons_zero, List.set_cons_succ, i64_w, i32_w]
            rfl
          refine pure_ (i := 16) (N := (some 47)) (v := ?_) (a' := ?_) #[true, true, true, true, true, true, true, true, true, true, true, true, true, true, true, true, true, false, false] rfl rfl (by kernel_rfl) (fun _ _ _ h => h) (Or.inl ⟨by rfl, ?_⟩) ?_ ?_
          rotate_left
          · intro w'
            go_simp
            with_reducible rfl
          rotate_left
          · simp only [Act.put, List.setIfInBounds_toArray, List.set_cons_zero, List.set_cons_succ, i64_w, i32_w]
            rfl
          refine pure_ (i := 17) (N := (some 48)) (v := ?_) (a' := ?_) #[true, true, true, true, true, true, true, true, true, true, true, true, true, true, true, true, true, true, false] rfl rfl (by kernel_rfl) (fun _ _ _ h => h) (Or.inl ⟨by rfl, ?_⟩) ?_ ?_
          rotate_left
          · intro w'
            go_simp
            with_reducible rfl
          rotate_left
          · simp only [Act.put, List.setIfInBounds_toArray, List.set_cons_zero, List.set_cons_succ, i64_w, i32_w]
            rfl
          refine last_ (i := 18) (N := none) #[true, true, true, true, true, true, true, true, true, true, true, true, true, true, true, true, true, true, true] rfl rfl (by kernel_rfl) (by decide) (fun K hK => ?_)
          refine skip_ (w1 := ?_) (by rfl) rfl ?_ ?_
          rotate_left
          · go_simp
            rfl
          refine hK.out _ _ ?_
          clear hK K
          refine done_ (by kernel_rfl) ?_
          rw [show (if rd hs (comes l1 x.1).f0 < wrap64 ((comes l1 x.1).f2 + rd hs (comes l1 x.1).f1) then wrap64 ((comes l1 x.1).f2 + rd hs (comes l1 x.1).f1) else rd hs (comes l1 x.1).f0) = max (rd hs (comes l1 x.1).f0) (wrap64 ((comes l1 x.1).f2 + rd hs (comes l1 x.1).f1)) by rw [Int.max_def]; split <;> split <;> omega]
          refine (show KeepsFrom W7.heap.size W _ ∧ KpB w.heap.size Be W _ ∧ _ from ⟨hkf.out.trans ((KeepsOthers.setCell _ _ _).from _), ⟨hlow.out.setCell (p := ⟨g4, _, none⟩) HN.out _, ?_⟩, ⟨_, ?_, hput'.out⟩, ?_, ?_, ?_⟩)
          · rw [Below.heap_setCell _ _ _ _ hne.symm, hd0]
          · rw [List.map_append, List.foldlM_append, e1]
            show (([x].map fun j : Fin l1.length => comes l1 j.1).foldlM dag_High.step hs) = _
            simp only [List.map_cons, List.map_nil, List.foldlM_cons, List.foldlM_nil]
            unfold dag_High.step
            rw [if_pos ⟨of_eq_true r0, by rw [hR'.out.1]; exact of_eq_true r1, of_eq_true r2, by rw [hR'.out.1]; exact of_eq_true r3⟩]
            rfl
          · rw [Below.heap_setCell _ _ _ _ hne45.symm, hd0]; exact h5'.out
          · rw [Below.heap_setCell _ _ _ _ hne.symm, hd0]; exact he'.out
          · exact (hB'.out.trans hlow.out).setCell (p := ⟨g4, _, none⟩) HN.out _
        case done =>
          rintro D xs W hD rfl ⟨⟨hs, e1, hR⟩, h5, he, hB⟩ hK
          rw [upto_all, Hf.out] at e1
          obtain rfl := Option.some.inj e1
          have b5 := (bC_ h5 0).trans rfl
          go_wp2
          refine ⟨by simp, .inl ⟨_, _, rfl, run_takeDeferred hK, ?_⟩⟩
          have hne4 : D ≠ g4 := fun e => by
            obtain ⟨cs4, hc4⟩ := hR.cells
            rw [← e, hK] at hc4
            cases hc4
          exact ⟨_, results_tmp rfl _ _ _, _, rfl, Kd.R_mono (Row.step (W1 := W.putObj D (.deferred none)) hR (World.putObj_heap_other (Ne.symm hne4))).2 (fun _ _ => trivial), hB.trans (belowK_b (w := w) (Nat.le_refl _) W D _ _ (by have := HB7.out.size; omega) hK rfl rfl)⟩
        case stop =>
          rintro D c pre W _ _ h _
          exact h.elim
  · rw [if_neg hlen] at h; exact absurd h (by simp)
end Go.Proofs.Ytibfkkjkahpobaa.PDag
end
section
namespace Go.Proofs.Ytibfkkjkahpobaa.PDag
attribute [local go_sem] max2_int min2_int max_two min_two max_three min_three max_four min_four   -- for this text's walks alone
theorem eqA51 (d : Nat) (w : World) (x0 y0 : Int) (x1 y1 : Int) (x2 y2 : Int) :
    (Op.equalIn (d + 2) 51 (.agg #[.int .i64 x0, .int .i64 x1, .int .i64 x2]) (.agg #[.int .i64 y0, .int .i64 y1, .int .i64 y2])).run Try.prog w = .ok (x0 == y0 && (x1 == y1 && (x2 == y2))) w := by
 refine eqA_of Try.underlying51 (by kernel_rfl) ?_
 refine eqf_cons (by rfl) (by go_simp; rfl) (by go_simp; rfl) (by go_simp) ?_
 refine eqf_cons (by rfl) (by go_simp; rfl) (by go_simp; rfl) (by go_simp) ?_
 exact eqf_last (by rfl) (by go_simp; rfl) (by go_simp; rfl) (by go_simp)
end Go.Proofs.Ytibfkkjkahpobaa.PDag
end
section
namespace Go.Proofs.Ytibfkkjkahpobaa.PDag
attribute [local go_sem] max2_int min2_int max_two min_two max_three min_three max_four min_four   -- for this text's walks alone
def isa_Read.j0 : Nat → List Int → Int → Int → Int → Int → Int → Int → ByteArray → Option (List Int)
  | 0, _, _, _, _, _, _, _, _ => none
  | k + 1, x2, x3, x150a, x150b, x150c, x150d, x150e, x150f => (isa_HasB.f x3).bind fun t155 => (if t155 = true then (if x2.length < 17592186044416 then (some (x2 ++ [x150d])) else (none)) else (some x2))
def isa_Read.f (k : Nat) (a0_0 : Int) (a0_1 : Int) (a0_2 : Int) (a0_3 : Int) (a0_4 : Int) (a0_5 : ByteArray) : Option (List Int) := (isa_Shape.f k a0_0).bind fun t150 => ((isa_HasA.f k t150).bind fun t151 => (if t151 = true then (if ([] : List Int).length < 17592186044416 then (isa_Read.j0 k (([] : List Int) ++ [a0_2]) t150 a0_0 a0_1 a0_2 a0_3 a0_4 a0_5) else (none)) else (isa_Read.j0 k ([] : List Int) t150 a0_0 a0_1 a0_2 a0_3 a0_4 a0_5)))
set_option maxHeartbeats 8000000 in
set_option maxRecDepth 100000 in
theorem isa_Read.calls (k : Nat) (a0_0 : Int) (a0_1 : Int) (a0_2 : Int) (a0_3 : Int) (a0_4 : Int) (a0_5 : ByteArray) (r : List Int) (w : World) (h : isa_Read.f k a0_0 a0_1 a0_2 a0_3 a0_4 a0_5 = some r) :
    Calls Try.prog 120 #[.agg #[.int .i64 a0_0, .int .i64 a0_1, .int .i64 a0_2, .int .i64 a0_3, .int .i64 a0_4, .string a0_5]] w fun e w' => ∃ v0_ : Value, e = .returned (v0_) ∧ Kd.R (Kd.int .i64) 3 w' w.heap.size (fun _ => True) v0_ r ∧ Below w.heap.size w w' := by
 have hu24 := Try.underlying24
 have HB := As_.mk (Below.refl w.heap.size w)
 have H : ((isa_Shape.f k a0_0).bind fun t150 => ((isa_HasA.f k t150).bind fun t151 => (if t151 = true then (if ([] : List Int).length < 17592186044416 then (isa_Read.j0 k (([] : List Int) ++ [a0_2]) t150 a0_0 a0_1 a0_2 a0_3 a0_4 a0_5) else (none)) else (isa_Read.j0 k ([] : List Int) t150 a0_0 a0_1 a0_2 a0_3 a0_4 a0_5)))) = some r := h
 clear h
 replace H := oB_ H
 obtain ⟨t150, A20, H⟩ := H
 have A2 := As_.mk A20
 clear A20
 replace H := oB_ H
 obtain ⟨t151, A30, H⟩ := H
 have A3 := As_.mk A30
 clear A30
 have HC4 := As_.mk H
 clear H
 go_enter Try.func120, Try.ntmps120
 go_upto_if 8 with (first | ((with_reducible refine gate_dst (N := 1) rfl ?_); refine bX_ (N := 1) (cs := #[.int .i64 a0_0, .int .i64 a0_1, .int .i64 a0_2, .int .i64 a0_3, .int .i64 a0_4, .string a0_5]) (t := 24) ?_; intro gb149 hg w5 hbox hb; replace BK149 := As_.mk (hbox); replace GW149 := As_.mk ((by rw [hg]; exact (bY_ (bl_ HB)) : w.heap.size ≤ gb149)); replace GE149 := As_.mk ((by rw [hg]; exact (bY_ (bl_ HB)) : w.heap.size ≤ gb149)); replace HB := As_.mk (bT_ (bl_ HB) hb); clear hb hbox hg; obtain ⟨hcz6_0, hcz6_1, hcz6_2, hcz6_3, hcz6_4, hcz6_5⟩ := cl6_ BK149.out; obtain ⟨hfz6_0, hfz6_1, hfz6_2, hfz6_3, hfz6_4, hfz6_5⟩ := fz6_ BK149.out) | ((with_reducible refine gC_ (f := 97) rfl ?_); refine gL_ (some 6) Try.func97 #[.int .i64 a0_0] rfl ?_; (with_reducible refine (isa_Shape.calls k a0_0 t150 _ A2.out).mono ?_); rintro e w' ⟨rfl, ⟨nd, rfl⟩⟩; refine ⟨_, rfl, ?_⟩) | ((with_reducible refine gC_ (f := 100) rfl ?_); refine gL_ (some 8) Try.func100 #[.int .i64 t150] rfl ?_; (with_reducible refine (isa_HasA.calls k t150 t151 _ A3.out).mono ?_); rintro e w' ⟨rfl, ⟨nd, rfl⟩⟩; refine ⟨_, rfl, ?_⟩))
 (try simp only [Act.put, List.setIfInBounds_toArray, List.set_cons_zero, List.set_cons_succ])
 go_cut [2] (fun v2 wc => ∃ (kq : Nat) (x2_3 : List Int), As_ (isa_Read.j0 kq x2_3 t150 a0_0 a0_1 a0_2 a0_3 a0_4 a0_5 = some r) ∧ As_ (kq ≤ k) ∧ As_ (Kd.R (Kd.int .i64) 3 wc w.heap.size (fun _ => True) v2 x2_3) ∧ As_ (wc.heap[gb149]? = some (.cells #[.int .i64 a0_0, .int .i64 a0_1, .int .i64 a0_2, .int .i64 a0_3, .int .i64 a0_4, .string a0_5] 24 (0, 0))) ∧ As_ (Below w.heap.size w wc))
 case first =>
  have H := HC4.out
  clear HC4
  by_cases c7 : t151 = true
  ·subst c7
   rw [if_pos rfl] at H
   by_cases c8 : ([] : List Int).length < 17592186044416
   ·rw [if_pos c8] at H
    have LMc8 := As_.mk c8
    clear c8
    obtain ⟨y152, hy152⟩ : ∃ y_ : List Int, y_ = (([] : List Int) ++ [a0_2]) := ⟨_, rfl⟩
    replace H : (isa_Read.j0 k y152 t150 a0_0 a0_1 a0_2 a0_3 a0_4 a0_5) = some r := by first | (rw [hy152]; with_reducible exact H) | (have H2_ := (Option.bind_some _ _).symm.trans H; rw [hy152]; with_reducible exact H2_) | (have H2_ := (Option.bind_some _ _).symm.trans H; with_reducible exact H2_) | with_reducible exact H | (rw [hy152]; exact H) | exact H
    have Ny152 := As_.mk hy152
    clear hy152
    have H' := As_.mk H
    clear H
    obtain ⟨hcz9_0, hcz9_1, hcz9_2, hcz9_3, hcz9_4, hcz9_5⟩ := cl6_ BK149.out
    obtain ⟨hfz9_0, hfz9_1, hfz9_2, hfz9_3, hfz9_4, hfz9_5⟩ := fz6_ BK149.out
    go_wp2_with (first | ((with_reducible refine gate_builtin (b := .append) (xs := #[.tmp 9, .tmp 12]) rfl ?_); at_builtin; refine Kd.R_append (Kd.int .i64) (w0 := w) w.heap.size rfl (.tmp 9) (.tmp 12) 25 3 (.int .i64 0) 8 rfl Try.underlying25 info3 rfl (by decide) (by omega) (.slice none 0 0) ([] : List Int) a0_2 [.int .i64 a0_2] (fun _ => True) (fun _ => False) rfl rfl ?aP (fun _ hk => hk.elim) ?aF ?aO ?aB ?aS ?aL ?_; (case aP => exact rfl); (case aB => exact (bs_ HB GE149)); (case aF => exact (fun _ _ => trivial)); (case aO => exact ((Kd.R_nil _ _ _ _ (fun _ => True)))); (case aS => exact (bY_ (bs_ HB GE149))); (case aL => have := LMc8.out; omega); intro v153 w10 ho hb hg hat; rw [← Ny152.out] at ho; replace BK149 := As_.mk (blk_grown (g := gb149) (o := .cells #[.int .i64 a0_0, .int .i64 a0_1, .int .i64 a0_2, .int .i64 a0_3, .int .i64 a0_4, .string a0_5] 24 (0, 0)) (rB_ BK149) hg (by simp [Value.ownBlock])); replace HB := As_.mk (hb); replace HO154 := As_.mk (ho); clear ho hb hg hat))
    go_meet
    case rel => exact ⟨_, (y152), H', ⟨by first | omega | exact Nat.le_refl _⟩, ⟨rR_ HO154⟩, ⟨rB_ BK149⟩, ⟨bs_ HB GE149⟩⟩
   rw [if_neg c8] at H
   exact absurd H (by simp)
  replace c7 := eF_ c7
  subst c7
  rw [if_neg Bool.false_ne_true] at H
  have H' := As_.mk H
  clear H
  go_wp2
  go_meet
  case rel => exact ⟨_, (([] : List Int)), H', ⟨by first | omega | exact Nat.le_refl _⟩, ⟨by first | exact Kd.R_nil _ _ _ _ _ | exact Kd.N_nil _ _ _ _ _ | exact Kd.V_nil _ _ _ _ _ | exact Kd.Q_nil _ _ _ _ _ | exact Kd.S_nil _ _ _ _ _⟩, ⟨rB_ BK149⟩, ⟨bs_ HB GE149⟩⟩
 case rest =>
  clear HC4
  obtain ⟨kq, x2_3, HA, HJ3, HO_2, BK149, HB⟩ := hcut
  cases kq with
  | zero => exact absurd HA.out (by simp [isa_Read.j0])
  | succ kj3 =>
   have H := HA.out
   clear HA
   simp only [isa_Read.j0] at H
   replace H := oB_ H
   obtain ⟨t155, A110, H⟩ := H
   have A11 := As_.mk A110
   clear A110
   by_cases c12 : t155 = true
   ·subst c12
    rw [if_pos rfl] at H
    by_cases c13 : x2_3.length < 17592186044416
    ·rw [if_pos c13] at H
     have LMc13 := As_.mk c13
     clear c13
     obtain ⟨y156, hy156⟩ : ∃ y_ : List Int, y_ = (x2_3 ++ [a0_3]) := ⟨_, rfl⟩
     replace H : (some y156) = some r := by first | (rw [hy156]; with_reducible exact H) | (have H2_ := (Option.bind_some _ _).symm.trans H; rw [hy156]; with_reducible exact H2_) | (have H2_ := (Option.bind_some _ _).symm.trans H; with_reducible exact H2_) | with_reducible exact H | (rw [hy156]; exact H) | exact H
     have Ny156 := As_.mk hy156
     clear hy156
     obtain rfl := oI_ H
     go_wp2_with (first | ((with_reducible refine gC_ (f := 101) rfl ?_); refine gL_ (some 15) Try.func101 #[.int .i64 t150] rfl ?_; (with_reducible refine (isa_HasB.calls t150 true _ A11.out).mono ?_); rintro e w' ⟨rfl, ⟨nd, rfl⟩⟩; refine ⟨_, rfl, ?_⟩; obtain ⟨hcz14_0, hcz14_1, hcz14_2, hcz14_3, hcz14_4, hcz14_5⟩ := cl6_ BK149.out; obtain ⟨hfz14_0, hfz14_1, hfz14_2, hfz14_3, hfz14_4, hfz14_5⟩ := fz6_ BK149.out) | ((with_reducible refine gate_builtin (b := .append) (xs := #[.tmp 16, .tmp 19]) rfl ?_); at_builtin; refine Kd.R_append (Kd.int .i64) (w0 := w) w.heap.size rfl (.tmp 16) (.tmp 19) 25 3 (.int .i64 0) 8 rfl Try.underlying25 info3 rfl (by decide) (by omega) u2 x2_3 a0_3 [.int .i64 a0_3] (fun _ => True) (fun _ => False) rfl rfl ?aP (fun _ hk => hk.elim) ?aF ?aO ?aB ?aS ?aL ?_; (case aP => exact rfl); (case aB => exact (bs_ HB GE149)); (case aF => exact (fun _ _ => trivial)); (case aO => exact (rR_ HO_2)); (case aS => exact (bY_ (bs_ HB GE149))); (case aL => have := LMc13.out; omega); intro v157 w15 ho hb hg hat; rw [← Ny156.out] at ho; replace BK149 := As_.mk (blk_grown (g := gb149) (o := .cells #[.int .i64 a0_0, .int .i64 a0_1, .int .i64 a0_2, .int .i64 a0_3, .int .i64 a0_4, .string a0_5] 24 (0, 0)) (rB_ BK149) hg (Kd.R_ne HO_2.out BK149.out (by decide))); replace HB := As_.mk (hb); replace HO158 := As_.mk (ho); clear HO_2; clear ho hb hg hat))
     go_ret
     exact ⟨_, by first | rfl | (simp [eN_, eS_] <;> rfl) | (simp [*, eN_, eS_] <;> rfl), rR_ HO158, bs_ HB GE149⟩
    rw [if_neg c13] at H
    exact absurd H (by simp)
   replace c12 := eF_ c12
   subst c12
   rw [if_neg Bool.false_ne_true] at H
   obtain rfl := oI_ H
   go_wp2_with (first | ((with_reducible refine gC_ (f := 101) rfl ?_); refine gL_ (some 15) Try.func101 #[.int .i64 t150] rfl ?_; (with_reducible refine (isa_HasB.calls t150 false _ A11.out).mono ?_); rintro e w' ⟨rfl, ⟨nd, rfl⟩⟩; refine ⟨_, rfl, ?_⟩))
   go_ret
   exact ⟨_, by first | rfl | (simp [eN_, eS_] <;> rfl) | (simp [*, eN_, eS_] <;> rfl), rR_ HO_2, bs_ HB GE149⟩
end Go.Proofs.Ytibfkkjkahpobaa.PDag
end
section
namespace Go.Proofs.Ytibfkkjkahpobaa.PDag
def dag_reads.f (k : Nat) (a0_0 a0_1 a0_2 a0_3 a0_4 : Int) (a0_5 : ByteArray) (a1_0 a1_1 a1_2 a1_3 a1_4 : Int) (a1_5 : ByteArray) : Option Bool :=
  (isa_Read.f k a0_0 a0_1 a0_2 a0_3 a0_4 a0_5).bind fun l => (sC_121.f k l a1_0 a1_1 a1_2 a1_3 a1_4 a1_5).bind fun t => some t.1
set_option maxRecDepth 100000 in
set_option maxHeartbeats 4000000 in
theorem dag_reads.calls (k : Nat) (a0_0 : Int) (a0_1 : Int) (a0_2 : Int) (a0_3 : Int) (a0_4 : Int) (a0_5 : ByteArray) (a1_0 : Int) (a1_1 : Int) (a1_2 : Int) (a1_3 : Int) (a1_4 : Int) (a1_5 : ByteArray) (r : Bool) (w : World) (h : dag_reads.f k a0_0 a0_1 a0_2 a0_3 a0_4 a0_5 a1_0 a1_1 a1_2 a1_3 a1_4 a1_5 = some r) :
    Calls Try.prog 103 #[.agg #[.int .i64 a0_0, .int .i64 a0_1, .int .i64 a0_2, .int .i64 a0_3, .int .i64 a0_4, .string a0_5], .agg #[.int .i64 a1_0, .int .i64 a1_1, .int .i64 a1_2, .int .i64 a1_3, .int .i64 a1_4, .string a1_5]] w fun e w' => e = .returned (.bool r) ∧ Below w.heap.size w w' := by
  have hu24 := Try.underlying24
  unfold dag_reads.f at h
  obtain ⟨rs, h1, h⟩ := Option.bind_eq_some_iff.mp h
  obtain ⟨⟨t1, t2, t3, t4, t5, t6, t7⟩, h2, h⟩ := Option.bind_eq_some_iff.mp h
  obtain rfl := Option.some.inj h
  have H1 := As_.mk h1
  have H2 := As_.mk h2
  clear h h1 h2
  have HB := As_.mk (Below.refl w.heap.size w)
  go_enter Try.func103, Try.ntmps103
  go_wp2_with (first | ((with_reducible refine gate_dst (N := 2) rfl ?_); refine bX_ (N := 2) (cs := #[.int .i64 a0_0, .int .i64 a0_1, .int .i64 a0_2, .int .i64 a0_3, .int .i64 a0_4, .string a0_5]) (t := 24) ?_; intro g2 hg w2 hbox hb; have hc0 := (bC_ hbox 0).trans rfl; have BX2 := As_.mk hbox; have HG2 := As_.mk hg; have HB2 := As_.mk hb; clear hbox hg hb)  | ((with_reducible refine gate_dst (N := 3) rfl ?_); refine bX_ (N := 3) (cs := #[.int .i64 a1_0, .int .i64 a1_1, .int .i64 a1_2, .int .i64 a1_3, .int .i64 a1_4, .string a1_5]) (t := 24) ?_; intro g3 hg w3 hbox hb; have q0 := (bC_ (kB_ BX2.out hb) 0).trans rfl; have q1 := (bC_ (kB_ BX2.out hb) 1).trans rfl; have q2 := (bC_ (kB_ BX2.out hb) 2).trans rfl; have q3 := (bC_ (kB_ BX2.out hb) 3).trans rfl; have q4 := (bC_ (kB_ BX2.out hb) 4).trans rfl; have q5 := (bC_ (kB_ BX2.out hb) 5).trans rfl; have BX3 := As_.mk hbox; have HG3 := As_.mk hg; have HB3 := As_.mk hb; clear hbox hg hb)  | (go_at_call 120; (with_reducible refine (isa_Read.calls k a0_0 a0_1 a0_2 a0_3 a0_4 a0_5 rs _ H1.out).mono ?_); rintro e w4 ⟨v4, rfl, ho, hb⟩; obtain ⟨Ao, co, eo⟩ := Kd.R_slice ho; subst eo; have HO := As_.mk ho; have HB4 := As_.mk hb; clear ho hb)  | (go_at_call 62; (refine (sC_121.calls k Ao co rs g3 a1_0 a1_1 a1_2 a1_3 a1_4 a1_5 t1 t2 t3 t4 t5 t6 t7 w _ ⟨kB_ BX3.out HB4.out, ?_⟩ ?_ (Kd.R_reads' HO.out).2.2 (Kd.R_reads' HO.out).2.1 ?_ H2.out).mono ?_)))
  case refine_1 => have := HG3.out; have := HB2.out.size; omega
  case refine_2 => exact HB2.out.trans ((HB3.out.mono HB2.out.size).trans (HB4.out.mono (Nat.le_trans HB2.out.size HB3.out.size)))
  case refine_3 =>
    intro ad e1 h0
    subst e1
    obtain ⟨g, cap, e2, hb, _⟩ := Kd.R_form HO.out h0
    have e3 : some ad = some ⟨g, 0, none⟩ := (by injection e2)
    obtain rfl := Option.some.inj e3
    have := blk_lt BX3.out
    show g ≠ g3
    omega
  case refine_4 =>
    rintro e w' ⟨rfl, hi, hb, hk⟩
    go_wp2
    go_ret
    exact ⟨rfl, hb⟩
end Go.Proofs.Ytibfkkjkahpobaa.PDag
end
