import Derived.Test.YtibfkkjkahpobaaGreatFt27
import Derived.Test.YtibfkkjkahpobaaGreatFt26
import Derived.Test.YtibfkkjkahpobaaGreatFt18
import Derived.Test.YtibfkkjkahpobaaGreatFt16
set_option linter.unusedVariables false
set_option linter.unusedSimpArgs false
set_option maxHeartbeats 8000000
set_option maxRecDepth 100000
open Go.RowKit Go.Proofs.YtibfkkjkahpobaaGreatW.PrintWords Go.Proofs.YtibfkkjkahpobaaGreatW.PrintLast Go.Proofs.YtibfkkjkahpobaaGreatW.PrintMore
namespace Go.Proofs.YtibfkkjkahpobaaGreat.PDag
section
attribute [local go_sem] Oper.semAt_some
section
variable {P : Program} {ops : Array Oper} {Q : Exit → Act → World → Prop} {md : Region.Mode}
theorem inv_ {σ : Type} {k : Nat} (lst : σ → Array Bool) (rank : σ → Nat) (F : σ → Act → World → Prop)
    (hstep : ∀ s a w, 0 < rank s → F s a w → Region.ready md ops (lst s) ≠ [] ∧ ∀ i ∈ Region.ready md ops (lst s), wpOp P ops Q i (fun a' w' => ∃ s', rank s' + 1 = rank s ∧ lst s' = (lst s).setIfInBounds i true ∧ F s' a' w') a w)
    (hcont : ∀ s a w, rank s = 0 → F s a w → wpAnyLast P md ops Q (fun _ => True) [] k (lst s) a w) :
    ∀ n s a w, rank s = n → F s a w → wpAnyLast P md ops Q (fun _ => True) [] (n + k) (lst s) a w
  | 0, s, a, w, h, hF => by rw [Nat.zero_add]; exact hcont s a w h hF
  | n + 1, s, a, w, h, hF => by
    obtain ⟨hne, hs⟩ := hstep s a w (by omega) hF; rw [show n + 1 + k = (n + k) + 1 by omega]; refine wpAnyLast_all rfl hne (fun i hi => wpOp_mono (fun a' w' hx => ⟨fun _ _ => trivial, ?_⟩) (hs i hi)); obtain ⟨s', h1, h2, h3⟩ := hx; rw [← h2]; exact inv_ lst rank F hstep hcont n s' a' w' (by omega) h3
end
def aheadOf (E : List S100) (n : Nat) : List (List S100) := (List.range n).map fun (i : Nat) => E.filter fun e => e.f1 == (i : Int)
theorem aheadOf_at (E : List S100) (n i : Nat) (hi : i < n) : rd_L51 (aheadOf E n) i = E.filter fun e => e.f1 == (i : Int) := by
  unfold rd_L51 aheadOf; rw [Int.toNat_natCast, List.getD_eq_getElem?_getD, List.getElem?_eq_getElem (by simpa using hi)]; simp
theorem aheadOf_snoc (E : List S100) (e : S100) (n : Nat) (h0 : 0 ≤ e.f1) (h1 : e.f1 < n) : aheadOf (E ++ [e]) n = (aheadOf E n).set e.f1.toNat (rd_L51 (aheadOf E n) e.f1 ++ [e]) := by
  have hr : rd_L51 (aheadOf E n) e.f1 = E.filter fun x => x.f1 == e.f1 := by
    have h2 := aheadOf_at E n e.f1.toNat (by omega); rw [show ((e.f1.toNat : Nat) : Int) = e.f1 by omega] at h2; exact h2
  rw [hr]; apply List.ext_getElem (by simp [aheadOf]); intro i hi hi2; rw [List.getElem_set]; simp only [aheadOf, List.getElem_map, List.getElem_range]
  by_cases c : e.f1.toNat = i
  · subst c; rw [if_pos rfl, List.filter_append, show ((e.f1.toNat : Nat) : Int) = e.f1 by omega]; simp
  · rw [if_neg c, List.filter_append]; have : (e.f1 == (i : Int)) = false := by simp; omega
    simp [this]
theorem k24_heap : Kd.Heap k24 := Kd.heap_iso _ (Kd.heap_pair (Kd.heap_int .i64) (Kd.heap_pair (Kd.heap_int .i64) (Kd.heap_pair (Kd.heap_int .i64) (Kd.heap_pair (Kd.heap_int .i64) (Kd.heap_pair (Kd.heap_int .i64) Kd.heap_string)))))
theorem info31 : (Tryz.prog.info? 88).map (fun i => (i.zero, i.size, i.bytes)) = some (some (.slice none 0 0), 1, 24) := by kernel_rfl
def planned78.T2 : Bool × List (List Nat × List Nat) := (true, [([], []), ([], []), ([1], [1]), ([2, 2], [2]), ([], []), ([], []), ([4, 5], [4, 5]), ([], []), ([], []), ([7, 8, 6], [7, 8]), ([], []), ([10], [10]), ([11, 11], [11]), ([], []), ([13], [13]), ([0, 3, 6, 9, 12, 14], [0, 3, 6, 9, 12, 14]), ([15], [15]), ([16, 9, 0, 1, 2, 3, 4, 5, 6, 7, 8, 9, 10, 11, 12, 13, 14, 15, 16], [16])])
def planned78.B2 : List Nat := [0, 0, 2, 6, 0, 0, 48, 0, 0, 496, 0, 1024, 3072, 0, 8192, 32767, 65535, 131071]
theorem planned78.tab2 : rtab .any (opsOf Tryz.f34 2) = planned78.T2 := by kernel_rfl
theorem planned78.bits2 : waitsOk planned78.T2.2 planned78.B2 = true := by kernel_rfl
def planned78.T6 : Bool × List (List Nat × List Nat) := (true, [([], []), ([0], [0]), ([1], [1]), ([2], [2]), ([], []), ([4], [4]), ([], []), ([6], [6]), ([7], [7]), ([8], [8]), ([], []), ([10], [10]), ([9, 11], [9, 11]), ([12], [12]), ([], []), ([14], [14]), ([13, 15], [13, 15]), ([3, 5, 0, 1, 2, 3, 4, 5, 6, 7, 8, 9, 10, 11, 12, 13, 14, 15, 16], [3, 5]), ([17, 16, 16, 0, 1, 2, 3, 4, 5, 6, 7, 8, 9, 10, 11, 12, 13, 14, 15, 16], [16, 17])])
def planned78.B6 : List Nat := [0, 1, 3, 7, 0, 16, 0, 64, 192, 448, 0, 1024, 4032, 8128, 0, 16384, 65472, 131071, 262143]
theorem planned78.tab6 : rtab .any (opsOf Tryz.f34 6) = planned78.T6 := by kernel_rfl
theorem planned78.bits6 : waitsOk planned78.T6.2 planned78.B6 = true := by kernel_rfl
def lst2 (s : Bool × Bool × Bool × Bool) : Array Bool := #[true, true, true, s.1, true, true, s.2.1, true, true, s.2.2.1, true, true, s.2.2.2, true, true, false, false, false]
def rank2 (s : Bool × Bool × Bool × Bool) : Nat := (if s.1 then 0 else 1) + (if s.2.1 then 0 else 1) + (if s.2.2.1 then 0 else 1) + (if s.2.2.2 then 0 else 1)
theorem ready2 : ∀ b u h m : Bool, (h = true → u = true) → 0 < rank2 (b, u, h, m) → readyT planned78.T2.2 (lst2 (b, u, h, m)).toList ≠ [] ∧
    ∀ i ∈ readyT planned78.T2.2 (lst2 (b, u, h, m)).toList, (i = 3 ∧ b = false) ∨ (i = 6 ∧ u = false) ∨ (i = 9 ∧ u = true ∧ h = false) ∨ (i = 12 ∧ m = false) := by decide +kernel
def fr2 (vl vE : Value) (n : Int) (v12 v15 v18 v21 : Value) : Act := ⟨#[vl, undef, .pointer none, vE, undef, undef, undef, vl, vE, vl, vl, .int .i64 n, v12, vl, vE, v15, vl, vE, v18, vl, .int .i64 n, v21, vl, .int .i64 n, undef, undef, undef, undef, undef, undef, undef, undef, undef, undef, undef, undef, undef, undef, undef, undef, undef, undef, undef, undef, undef, undef, undef, undef, undef, undef, undef, undef, undef, undef, undef, undef, undef, undef, undef, undef, undef, undef, undef, undef, undef, undef], []⟩
structure In2 (w1 : World) (vl vE : Value) (n : Nat) (U H : List Int) (s : Bool × Bool × Bool × Bool) (a : Act) (w : World) : Prop where
  uh : s.2.2.1 = true → s.2.1 = true
  ex : ∃ v12 v15 v18 v21, a = fr2 vl vE n v12 v15 v18 v21 ∧ Below w1.heap.size w1 w ∧ (s.1 = true → Kd.S (Kd.slice 100 k100) 88 w w1.heap.size (fun _ => True) v12 (List.replicate n [])) ∧
    (s.2.1 = true → (Kd.int .i64).R 3 w w1.heap.size (fun k => s.2.2.2 = true → some k ≠ v21.ownBlock) v15 U) ∧ (s.2.2.1 = true → (Kd.int .i64).R 3 w w1.heap.size (fun k => s.2.2.2 = true → some k ≠ v21.ownBlock) v18 H) ∧
    (s.2.2.2 = true → (Kd.int .i64).R 3 w w1.heap.size (fun _ => True) v21 (List.replicate n 0))
structure PLI (B g : Nat) (Al A12 A15 A18 A21 : Option Addr) (cl c12 c15 c18 c21 n : Nat) (vA : Value) (XA : List Int) (AH : List (List S100)) (U H : List Int) (W : World) : Prop where
  box : W.heap[g]? = some (.cells #[.slice Al n cl, .slice A12 n c12, .slice A15 n c15, .slice A18 n c18, vA, .slice A21 n c21, .int .i64 n] 79 (0, 0))
  ah : Kd.S (Kd.slice 100 k100) 88 W B (fun _ => True) (.slice A12 n c12) AH
  hu : (Kd.int .i64).R 3 W B (fun k => some k ≠ (Value.slice A21 n c21).ownBlock ∧ some k ≠ vA.ownBlock) (.slice A15 n c15) U
  hh : (Kd.int .i64).R 3 W B (fun k => some k ≠ (Value.slice A21 n c21).ownBlock ∧ some k ≠ vA.ownBlock) (.slice A18 n c18) H
  hs : (Kd.int .i64).R 3 W B (fun k => some k ≠ vA.ownBlock) (.slice A21 n c21) (List.replicate n 0)
  ha : (Kd.int .i64).R 3 W B (fun _ => True) vA XA
section
variable {B g : Nat} {Al A12 A15 A18 A21 : Option Addr} {cl c12 c15 c18 c21 n : Nat} {vA : Value} {XA : List Int} {AH : List (List S100)} {U H : List Int} {W W1 : World}
theorem PLI.below (h : PLI B g Al A12 A15 A18 A21 cl c12 c15 c18 c21 n vA XA AH U H W) (hB : Below W.heap.size W W1) : PLI B g Al A12 A15 A18 A21 cl c12 c15 c18 c21 n vA XA AH U H W1 :=
  ⟨kB_ h.box hB, Kd.S_below h.ah hB, Kd.R_below h.hu hB, Kd.R_below h.hh hB, Kd.R_below h.hs hB, Kd.R_below h.ha hB⟩
theorem PLI.row (h : PLI B g Al A12 A15 A18 A21 cl c12 c15 c18 c21 n vA XA AH U H W) (i : Nat) (hi : i < n) (e : S100) : ∃ (g12 : Nat) (v : Value) (ok : Nat → Prop), A12 = some ⟨g12, 0, none⟩ ∧ g ≠ g12 ∧ W.cell? ⟨g12, i, none⟩ = some v ∧ k100.R 100 W B ok v (rd_L51 AH i) ∧ (∀ k, W.heap.size ≤ k → ok k) ∧
    ∀ v1 w1, k100.R 100 w1 B ok v1 (rd_L51 AH i ++ [e]) → W.grownBy w1 v.ownBlock → w1.heap[g]? = some (.cells #[.slice Al n cl, .slice A12 n c12, .slice A15 n c15, .slice A18 n c18, vA, .slice A21 n c21, .int .i64 n] 79 (0, 0)) ∧
      w1.cell? ⟨g12, i, none⟩ = some v ∧ w1.frozen? ⟨g12, i, none⟩ = false ∧ (B ≤ g12) ∧ PLI B g Al A12 A15 A18 A21 cl c12 c15 c18 c21 n vA XA (AH.set i (rd_L51 AH i ++ [e])) U H (w1.setCell ⟨g12, i, none⟩ v1) := by
  have hlen := (Kd.S_reads' h.ah).1; obtain ⟨g12, c', hv, hg12, hlt, cells, hty⟩ := Kd.S_form h.ah (by omega); injection hv with hv1 hv2 hv3
  subst hv1; have ah := h.ah; obtain ⟨oki, c, hcl, hM, hcc, hfr, hoki, hH⟩ := Kd.S_elem ah ([] : List S100) (i : Int) (by omega) (by omega); obtain ⟨v, rfl, hR⟩ := hM; rw [Int.toNat_natCast] at hcc hfr hR
  have hc0 : W.cell? ⟨g12, i, none⟩ = some v := by
    have h2 := hcc 0 v rfl
    rwa [show (Kd.slice 100 k100).sz = 1 from rfl, Nat.mul_one, Nat.add_zero] at h2
  have hbx := h.box; have hgne : g ≠ g12 := blk_ne hbx hty (by decide); refine ⟨g12, v, fun k => oki k ∨ True ∧ W.heap.size ≤ k, rfl, hgne, hc0, Kd.R_mono hR (fun k hk => .inl hk), fun k hk => .inr ⟨trivial, hk⟩, fun v1 w1 hR1 hg => ?_⟩; have hH1 := Kd.H_grown (Kd.H_widen hH) hg (fun k hk => .inl (hR.1 k hk)); have hbox1 := blk_grown hbx hg (Kd.R_ne hR hbx (by decide)); have hu1 := Kd.R_over' (v := v) h.hu (Kd.R_typed hR) (by decide) hg; have hh1 := Kd.R_over' (v := v) h.hh (Kd.R_typed hR) (by decide) hg; have hs1 := Kd.R_over' (v := v) h.hs (Kd.R_typed hR) (by decide) hg; have ha1 := Kd.R_over' (v := v) h.ha (Kd.R_typed hR) (by decide) hg; obtain ⟨hcc1, hfr1⟩ := Kd.H_at hH1 (by omega) (by omega); rw [Int.toNat_natCast] at hcc1 hfr1
  have hc1 : w1.cell? ⟨g12, i, none⟩ = some v := by
    have h2 := hcc1 0 v rfl
    rwa [show (Kd.slice 100 k100).sz = 1 from rfl, Nat.mul_one, Nat.add_zero] at h2
  have hf1 : w1.frozen? ⟨g12, i, none⟩ = false := by
    have h2 := hfr1 0
    rwa [show (Kd.slice 100 k100).sz = 1 from rfl, Nat.mul_one, Nat.add_zero] at h2
  refine ⟨hbox1, hc1, hf1, hg12, ?_⟩; obtain ⟨hS, hg2⟩ := Kd.S_seg0 hH1 (by omega) (by omega) (seg := [v1]) (j := 0) (Nat.le_refl 1) (x' := rd_L51 AH i ++ [e]) ⟨v1, rfl, hR1⟩ (fun _ hk => hk); rw [Int.toNat_natCast, show (Kd.slice 100 k100).sz = 1 from rfl, Nat.mul_one, Nat.add_zero] at hS hg2
  have hty1 : ∃ cells, w1.heap[g12]? = some (.cells cells 88 (0, 0)) := by
    obtain ⟨_, f, hG⟩ := hH1; exact Kd.R_typed hG g12 rfl
  have hS1 := fun {v' : Value} {X : List Int} {ok : Nat → Prop} (hx : (Kd.int .i64).R 3 w1 B ok v' X) => Kd.R_over' (e' := 88) (w1 := w1.setCells g12 i [v1]) (v := .slice (some ⟨g12, 0, none⟩) n c12) hx (fun k hk => by simp only [Value.ownBlock] at hk; injection hk with hk; subst hk; exact hty1) (by decide) hg2; exact ⟨blk_grown hbox1 hg2 (by simp; exact hgne), hS, hS1 hu1, hS1 hh1, hS1 hs1, hS1 ha1⟩
theorem PLI.push (h : PLI B g Al A12 A15 A18 A21 cl c12 c15 c18 c21 n vA XA AH U H W) {v1 : Value} {w1 : World} {x : Int} (hR : (Kd.int .i64).R 3 w1 B (fun _ => True) v1 (XA ++ [x])) (hg : W.grownBy w1 vA.ownBlock) (hat : v1.ownBlock = vA.ownBlock ∨ ∃ b, v1.ownBlock = some b ∧ W.heap.size ≤ b) :
    w1.heap[g]? = some (.cells #[.slice Al n cl, .slice A12 n c12, .slice A15 n c15, .slice A18 n c18, vA, .slice A21 n c21, .int .i64 n] 79 (0, 0)) ∧ PLI B g Al A12 A15 A18 A21 cl c12 c15 c18 c21 n v1 (XA ++ [x]) AH U H (w1.setCell ⟨g, 4, none⟩ v1) := by
  have hb := blk_grown h.box hg (Kd.R_ne h.ha h.box (by decide)); have hs1 := Kd.R_after (v1 := v1) (ok := fun _ => True) (Kd.R_mono h.hs (fun _ hk => ⟨trivial, hk⟩)) hg hat; refine ⟨hb, blk_put hb 4 v1 rfl, Kd.S_set (Kd.S_over' h.ah (Kd.R_typed h.ha) (by decide) hg) hb (by decide) 4 v1, Kd.R_set (Kd.R_after (v1 := v1) h.hu hg hat) hb (by decide) 4 v1, Kd.R_set (Kd.R_after (v1 := v1) h.hh hg hat) hb (by decide) 4 v1, Kd.R_set (Kd.R_mono hs1 (fun _ hk => hk.2)) hb (by decide) 4 v1, Kd.R_set hR hb (by decide) 4 v1⟩
end
theorem planned_calls (k : Nat) (Al : Option Addr) (cl : Nat) (l : List S24) (E : List S100) (U H : List Int) (w : World) (hl : Kd.C k24 w Al l.length l) (hcl : l.length ≤ cl) (hmx : l.length ≤ 200) (hUl : U.length = l.length) (hHl : H.length = l.length) (hEm : E.length ≤ 100000) (hin : ∀ j : Nat, j < E.length → 0 ≤ (J100 E j).f1 ∧ (J100 E j).f1 < l.length)
    (hE : dag_Edges.f k l = some E) (hU : dag_Urge.f k l E = some U) (hH : dag_High.f k l E = some H) :
    Calls Tryz.prog 34 #[.slice Al l.length cl] w fun e w' => ∃ (B g : Nat) (A12 A15 A18 A21 : Option Addr) (c12 c15 c18 c21 : Nat) (vA : Value), e = .returned (.pointer (some ⟨g, 0, none⟩)) ∧ w.heap.size ≤ B ∧ B ≤ g ∧
      PLI B g Al A12 A15 A18 A21 cl c12 c15 c18 c21 l.length vA (List.replicate l.length (-1)) (aheadOf E l.length) U H w' ∧ Kd.F k24 w' (fun k => k < B) Al l.length l ∧ Below w.heap.size w w' := by
  have HL := aM_ hl; have HE := aM_ (dag_Edges.calls k Al cl l E w hl hcl hE); clear hl; go_enter Tryz.func34, Tryz.ntmps34
  go_wp2_with (go_at_call 52; refine HE.out.mono ?_; rintro e w1 ⟨vE, rfl, hR, hb⟩; have HR := aM_ hR; have HB := aM_ hb; clear hR hb)
  have n0_ := aM_ (b1_ HB.out); have n1_ := aM_ (Kd.R_drew HR.out); obtain ⟨AE, cE, hvE⟩ := Kd.R_slice HR.out; subst hvE; have n2_ := aM_ (Kd.C_below HL.out n0_.out); refine start_ (n := 18) (S := fun w' => True) (ds := []) (bm 18 0) (by kernel_rfl) rfl (by kernel_rfl) trivial (fun hHeld => ?_); refine with_tabW planned78.tab2 planned78.bits2 (fun HT_ HW_ => ?_); generalize w1.drew = w2 at n0_ n1_ n2_ hHeld ⊢; clear HB HR HL HE; have HB := n0_; have HR := n1_; have HL := n2_; clear n0_ n1_ n2_; refine sq_ (k := 7) [(0, some 9, false), (1, some 10, false), (2, some 11, false), (4, some 13, false), (5, some 14, false), (7, some 16, false), (8, some 17, false), (10, some 19, false), (11, some 20, false), (13, some 22, false), (14, some 23, false)] (lst2 (false, false, false, false)) rfl (sq_of HT_.out HW_.out (by kernel_rfl)) (fun _ _ _ _ _ h => h) hHeld ?_
  repeat (first | (refine SqOn.pure (v := ?_) (a' := ?_) rfl rfl (Or.inl ⟨by kernel_rfl, ?_⟩) ?_ ?_; rotate_left 2; (focus (intro w'; go_simp; with_reducible rfl)); (focus exact pU_)))
  refine SqOn.nil ?_; refine inv_ (k := 3) lst2 rank2 (In2 w2 (.slice Al l.length cl) (.slice AE E.length cE) l.length U H) ?hstep ?hcont 4 (false, false, false, false) _ _ rfl ⟨(fun h => by cases h), undef, undef, undef, undef, rfl, Below.refl _ _, (fun h => by cases h), (fun h => by cases h), (fun h => by cases h), (fun h => by cases h)⟩
  case hstep =>
    rintro ⟨b, u, h, m⟩ a W hrk ⟨huh, v12, v15, v18, v21, rfl, hB, h12, h15, h18, h21⟩; obtain ⟨hne, hrd⟩ := ready2 b u h m huh hrk; rw [ready_eq, HT_.out]; refine ⟨hne, fun i hi => ?_⟩; have hRD := Kd.C_below (Kd.R_reads' HR.out).2.2 hB; have hLD := Kd.C_below HL.out hB; have hcE := (Kd.R_reads' HR.out).2.1; rcases hrd i hi with ⟨rfl, rfl⟩ | ⟨rfl, rfl⟩ | ⟨rfl, rfl, rfl⟩ | ⟨rfl, rfl⟩
    · refine wpOp_step rfl (fun K' hK => ?_); refine Kd.S_make_step (Kd.slice 100 k100) (w0 := w2) w2.heap.size 88 (by rfl) (N := 12) rfl 77 _ _ rfl (l.length : Int) rfl rfl Tryz.underlying77 (.slice none 0 0) 24 info31 rfl (by decide) (by omega) ([] : List S100) (ok := fun _ => True) (okp := fun _ => True) ?hz (fun _ hk => hk) trivial (by omega) (by omega) hB hB.size ?_
      case hz => exact ⟨_, rfl, Kd.R_nil _ _ _ _ _⟩
      intro v W1 ho hb hg _; rw [Int.toNat_natCast] at ho; refine hK _ _ ⟨(true, u, h, m), ?_, ?_, ⟨huh, v, v15, v18, v21, rfl, hb, fun _ => ho, fun e => Kd.R_grown (h15 e) hg (fun _ _ => by simp), fun e => Kd.R_grown (h18 e) hg (fun _ _ => by simp), fun e => Kd.R_grown (h21 e) hg (fun _ _ => by simp)⟩⟩
      · cases u <;> cases h <;> cases m <;> rfl
      · cases u <;> cases h <;> cases m <;> rfl
    · refine wpOp_step rfl (fun K' hK => ?_); refine goes_ Tryz.func63 (by kernel_rfl) rfl #[.slice Al l.length cl, .slice AE E.length cE] (by rfl) rfl rfl (by (simp only [List.map_toArray, List.map_cons, List.map_nil]); rfl) ?_; refine (dag_Urge.calls k Al cl l AE cE E U W hLD hcl hRD hcE hU).mono ?_; rintro e W1 ⟨v, rfl, hR, hb⟩; refine ⟨v, rfl, hK _ _ ⟨(b, true, h, m), ?_, ?_, ⟨fun _ => rfl, v12, v, v18, v21, rfl, hB.trans (hb.mono hB.size), fun e => Kd.S_below (h12 e) hb, fun e => Kd.R_mono (Kd.R_bound hR) (fun k_ hk hm he => ?_) |> fun h_ => Kd.R_lower h_ hB.size, fun e => Kd.R_below (h18 e) hb, fun e => Kd.R_below (h21 e) hb⟩⟩⟩
      · cases b <;> cases h <;> cases m <;> first | rfl | exact absurd (huh rfl) (by decide)
      · cases b <;> cases h <;> cases m <;> rfl
      · have h1 := Kd.R_lt (h21 hm) k_ he.symm; have h2 := hk.2.1; omega
    · refine wpOp_step rfl (fun K' hK => ?_); refine goes_ Tryz.func64 (by kernel_rfl) rfl #[.slice Al l.length cl, .slice AE E.length cE] (by rfl) rfl rfl (by (simp only [List.map_toArray, List.map_cons, List.map_nil]); rfl) ?_; refine (dag_High.calls k Al cl l AE cE E H W hLD hcl hRD hcE hH).mono ?_; rintro e W1 ⟨v, rfl, hR, hb⟩; refine ⟨v, rfl, hK _ _ ⟨(b, true, true, m), ?_, ?_, ⟨fun _ => rfl, v12, v15, v, v21, rfl, hB.trans (hb.mono hB.size), fun e => Kd.S_below (h12 e) hb, fun e => Kd.R_below (h15 e) hb, fun e => Kd.R_mono (Kd.R_bound hR) (fun k_ hk hm he => ?_) |> fun h_ => Kd.R_lower h_ hB.size, fun e => Kd.R_below (h21 e) hb⟩⟩⟩
      · cases b <;> cases m <;> rfl
      · cases b <;> cases m <;> rfl
      · have h1 := Kd.R_lt (h21 hm) k_ he.symm; have h2 := hk.2.1; omega
    · refine wpOp_step rfl (fun K' hK => ?_); refine Kd.R_make_step (Kd.int .i64) (w0 := w2) w2.heap.size 3 (by rfl) (N := 21) rfl 25 _ _ rfl (l.length : Int) rfl rfl Tryz.underlying25 (.int .i64 0) 8 info3 rfl (by decide) (by omega) 0 (ok := fun _ => True) (okp := fun _ => True) rfl (fun _ hk => hk) trivial (by omega) (by omega) hB hB.size ?_; intro v W1 ho hb hg hn; obtain ⟨bl, hbl, hbs⟩ := hn; rw [Int.toNat_natCast] at ho
      have hup : ∀ {v' : Value} {X : List Int}, (Kd.int .i64).R 3 W w2.heap.size (fun k => false = true → some k ≠ v21.ownBlock) v' X → (Kd.int .i64).R 3 W1 w2.heap.size (fun k => true = true → some k ≠ v.ownBlock) v' X := fun hx =>
        Kd.R_mono (Kd.R_grown (Kd.R_bound hx) hg (fun _ _ => by simp)) (fun k_ hk _ he => by
          rw [hbl] at he; injection he with he
          have := hk.2.2.1
          omega)
      refine hK _ _ ⟨(b, u, h, true), ?_, ?_, ⟨huh, v12, v15, v18, v, rfl, hb, fun e => Kd.S_grown (h12 e) hg (fun _ _ => by simp), fun e => hup (h15 e), fun e => hup (h18 e), fun _ => ho⟩⟩
      · cases b <;> cases u <;> cases h <;> first | rfl | exact absurd (huh rfl) (by decide)
      · cases b <;> cases u <;> cases h <;> rfl
  case hcont =>
    rintro ⟨b, u, h, m⟩ a W hrk ⟨huh, v12, v15, v18, v21, rfl, hB, h12, h15, h18, h21⟩; obtain ⟨rfl, rfl, rfl, rfl⟩ : b = true ∧ u = true ∧ h = true ∧ m = true := by cases b <;> cases u <;> cases h <;> cases m <;> simp [rank2] at hrk ⊢
    clear huh hrk; have hs12 := h12 rfl; have hs15 := h15 rfl; have hs18 := h18 rfl; have hs21 := h21 rfl; obtain ⟨A12, c12, rfl⟩ := Kd.S_slice hs12; obtain ⟨A15, c15, rfl⟩ := Kd.R_slice hs15; obtain ⟨A18, c18, rfl⟩ := Kd.R_slice hs18; obtain ⟨A21, c21, rfl⟩ := Kd.R_slice hs21; clear h12 h15 h18 h21; rw [List.length_replicate] at hs12 hs21; rw [hUl] at hs15; rw [hHl] at hs18; have HB2 := aM_ hB; have H12 := aM_ hs12; have H15 := aM_ (Kd.R_mono (ok' := fun k_ => some k_ ≠ (Value.slice A21 l.length c21).ownBlock) hs15 (fun k_ h_ => by simpa [Value.ownBlock] using h_ rfl)); have H18 := aM_ (Kd.R_mono (ok' := fun k_ => some k_ ≠ (Value.slice A21 l.length c21).ownBlock) hs18 (fun k_ h_ => by simpa [Value.ownBlock] using h_ rfl)); have H21 := aM_ hs21; clear hB hs12 hs15 hs18 hs21; rw [List.length_replicate, List.length_replicate, hUl, hHl]; refine sq_ (k := 2) [(15, some 24, false)] #[true, true, true, true, true, true, true, true, true, true, true, true, true, true, true, true, false, false] rfl (sq_of HT_.out HW_.out (by kernel_rfl)) (fun _ _ _ _ _ h => h) trivial ?_; refine SqOn.pure (v := ?_) (a' := ?_) rfl rfl (Or.inl ⟨by kernel_rfl, ?_⟩) ?_ ?_; rotate_left 2
    · intro w'; unfold fr2; go_simp; with_reducible rfl
    · unfold fr2; simp only [Act.put, List.setIfInBounds_toArray, List.set_cons_zero, List.set_cons_succ]; rfl
    refine SqOn.nil ?_; refine one_ (i := 16) (N := some 25) #[true, true, true, true, true, true, true, true, true, true, true, true, true, true, true, true, true, false] rfl rfl (one_of HT_.out (by kernel_rfl)) (by decide) (fun K hK => ?_); refine box_step (by rfl) (N := 25) rfl (cs := #[.slice Al l.length cl, .slice A12 l.length c12, .slice A15 l.length c15, .slice A18 l.length c18, .slice none 0 0, .slice A21 l.length c21, .int .i64 l.length]) (t := 79) ?hr ?_
    case hr => first | (go_simp; done) | (go_simp; rfl)
    intro g hg W3 hbox hb; refine hK.out _ _ trivial (fun _ => ?_); clear hK K; have BX := aM_ hbox; have n2_ := aM_ (HB2.out.trans (hb.mono HB2.out.size)); have n12_ := aM_ (Kd.S_below H12.out hb); have n15_ := aM_ (Kd.R_below H15.out hb); have n18_ := aM_ (Kd.R_below H18.out hb); have n21_ := aM_ (Kd.R_below H21.out hb); have GB := aM_ (by rw [hg]; exact HB2.out.size : w2.heap.size ≤ g); clear HB2 H12 H15 H18 H21 hb hbox hg; refine sq_ (k := 0) [(17, some 4, false)] #[true, true, true, true, true, true, true, true, true, true, true, true, true, true, true, true, true, true] rfl (sq_of HT_.out HW_.out (by kernel_rfl)) (fun _ _ _ _ _ h => h) trivial ?_
    repeat (first | (refine SqOn.pure (v := ?_) (a' := ?_) rfl rfl (Or.inl ⟨by kernel_rfl, ?_⟩) ?_ ?_; rotate_left 2; (focus (intro w'; go_simp; with_reducible rfl)); (focus exact pU_)))
    refine SqOn.nil ?_; refine done_ (done_of HT_.out (by kernel_rfl)) ?_; have HBW := aM_ HB.out; have HPL := aM_ (⟨BX.out, n12_.out, Kd.R_mono n15_.out (fun k_ hk => ⟨hk, by simp [Value.ownBlock]⟩), Kd.R_mono n18_.out (fun k_ hk => ⟨hk, by simp [Value.ownBlock]⟩), Kd.R_mono n21_.out (fun k_ hk => by simp [Value.ownBlock]), Kd.R_nil _ _ _ _ _⟩ : PLI w2.heap.size g Al A12 A15 A18 A21 cl c12 c15 c18 c21 l.length (.slice none 0 0) [] (List.replicate l.length []) U H W3); have HBB := n2_; clear HT_ HW_ hHeld hH hU hE HB n2_ n12_ n15_ n18_ n21_ BX; go_wp2
    go_loopw [28] (fun i wr => ∃ j : Nat, j ≤ E.length ∧ i = .int .i64 j ∧ As_ (PLI w2.heap.size g Al A12 A15 A18 A21 cl c12 c15 c18 c21 l.length (.slice none 0 0) [] (aheadOf (E.take j) l.length) U H wr) ∧ As_ (Below w2.heap.size w2 wr)) (fun i _ => E.length - (intOf i).toNat)
    case atStart => exact ⟨0, Nat.zero_le _, rfl, ⟨by rw [show aheadOf (E.take 0) l.length = List.replicate l.length [] from by apply List.ext_getElem <;> simp [aheadOf]]; exact HPL.out⟩, ⟨HBB.out⟩⟩
    case round =>
      clear HPL HBB; obtain ⟨j, hj, rfl, HPL, HBB⟩ := hrel
      by_cases hlt : j < E.length
      · obtain ⟨ad, e1, hx0, hx1, hx2⟩ := at_T100 (Kd.C_below (Kd.R_reads' HR.out).2.2 HBB.out) (j : Int) (Int.natCast_nonneg _) (by omega); subst e1; rw [Int.toNat_natCast] at hx0 hx1 hx2; obtain ⟨hi0, hi1⟩ := hin j hlt; have htk : E.take (j + 1) = E.take j ++ [J100 E j] := by rw [rd51_at E j hlt, List.take_succ_eq_append_getElem hlt]
        have HTK := aM_ htk; clear htk; generalize hed : J100 E (j : Int) = ed at hx0 hx1 hx2 hi0 hi1 HTK; obtain ⟨ef0, ef1, ef2⟩ := ed; obtain ⟨i, rfl⟩ := Int.eq_ofNat_of_zero_le hi0; have hil : i < l.length := by simpa using hi1
        clear hi0 hi1 hed; have HIL := aM_ hil; have p1 : ((0 : Int) ≤ (j : Int)) = True := eq_true (Int.natCast_nonneg _); have q1 : ((j : Int) < (E.length : Int)) = True := eq_true (by omega); have hw2 : wrap64 ((j : Int) + 1) = ((j + 1 : Nat) : Int) := by unfold wrap64; omega
        obtain ⟨g12, v, ok, rfl, hne12, hc12, hRv, hfr, hback⟩ := ((HPL.out.below (bA_ (Below.refl _ _) (.cells #[.int .i64 ef0, .int .i64 i, .int .i64 ef2] 100))).below (b1_ (Below.refl _ _))).row i hil ⟨ef0, i, ef2⟩
        have hlt' : ∀ k_, v.ownBlock = some k_ → k_ < wr.heap.size := by
          obtain ⟨g12', v', _, h1', _, hc', hR', _⟩ := HPL.out.row i hil ⟨ef0, i, ef2⟩; obtain rfl : g12 = g12' := by injection h1' with h1'; injection h1'
          have he := hc12.symm.trans (pw_cell_below (b1_ (bA_ (Below.refl wr.heap.size wr) (.cells #[.int .i64 ef0, .int .i64 i, .int .i64 ef2] 100))) hc'); injection he with he
          subst he; exact Kd.R_lt hR'
        obtain ⟨Av, cv, hv⟩ := Kd.R_slice hRv; subst hv; have HLT := aM_ hlt'; clear hlt'; have p2 : ((0 : Int) ≤ (i : Int)) = True := eq_true (Int.natCast_nonneg _); have q2 : ((i : Int) < (l.length : Int)) = True := eq_true (by omega); have hb0 := b1_ (bA_ (Below.refl wr.heap.size wr) (.cells #[.int .i64 ef0, .int .i64 i, .int .i64 ef2] 100)); have hbx : (wr.alloc (.cells #[.int .i64 ef0, .int .i64 i, .int .i64 ef2] 100)).drew.heap[wr.heap.size]? = some (.cells #[.int .i64 ef0, .int .i64 i, .int .i64 ef2] 100 (0, 0)) := blk_new wr _; have m1 : (wr.alloc (.cells #[.int .i64 ef0, .int .i64 i, .int .i64 ef2] 100)).drew.cell? ⟨g, 1, none⟩ = some (.slice (some ⟨g12, 0, none⟩) l.length c12) := (bC_ (kB_ HPL.out.box hb0) 1).trans rfl; have HRV := aM_ hRv; have HFR := aM_ hfr; have HBK := aM_ hback; have HB0 := aM_ hb0; have HBX := aM_ hbx; have HM1 := aM_ m1; have HC12 := aM_ hc12; clear hRv hfr hback hb0 hbx m1 hc12; go_wp2; clear hx0 hx1 hx2; refine start_ (n := 19) (S := fun w' => w'.cell? ⟨g, 1, none⟩ = some (.slice (some ⟨g12, 0, none⟩) l.length c12) ∧ w'.cell? ⟨wr.heap.size, 0, none⟩ = some (.int .i64 ef0) ∧ w'.cell? ⟨wr.heap.size, 1, none⟩ = some (.int .i64 i) ∧ w'.cell? ⟨wr.heap.size, 2, none⟩ = some (.int .i64 ef2) ∧ w'.cell? ⟨g12, i, none⟩ = some (.slice Av (rd_L51 (aheadOf (E.take j) l.length) i).length cv)) (ds := [18]) (bm 19 0) (by kernel_rfl) rfl (by kernel_rfl) ⟨HM1.out, (bC_ HBX.out 0).trans rfl, (bC_ HBX.out 1).trans rfl, (bC_ HBX.out 2).trans rfl, HC12.out⟩ (fun hHeld => ?_); refine with_tabW planned78.tab6 planned78.bits6 (fun HT_ HW_ => ?_); generalize hgx : wr.heap.size = gx at HM1 HBX HC12 hHeld HB0 HLT ⊢; generalize (wr.alloc (.cells #[.int .i64 ef0, .int .i64 i, .int .i64 ef2] 100)).drew = W5 at HRV HFR HBK HB0 HBX HM1 HC12 hHeld ⊢; refine sq_ (k := 4) [(0, some 32, false), (1, some 33, false), (2, some 34, false), (3, some 35, true), (4, some 36, false), (5, some 37, true), (6, some 38, false), (7, some 39, false), (8, some 40, false), (9, some 41, true), (10, some 42, false), (11, some 43, true), (12, some 44, false), (13, some 45, true), (14, some 46, true)] #[true, true, true, true, true, true, true, true, true, true, true, true, true, true, true, false, false, false, false] rfl (sq_of HT_.out HW_.out (by kernel_rfl)) (fun _ _ _ _ _ h => h) hHeld ?_
        repeat (first | (refine SqOn.pure (v := ?_) (a' := ?_) rfl rfl (Or.inl ⟨by kernel_rfl, ?_⟩) ?_ ?_; rotate_left 2; (focus (intro w'; go_simp; with_reducible rfl)); (focus exact pU_)) | (refine SqOn.take (v := ?_) (a' := ?_) rfl rfl (Or.inl ⟨by kernel_rfl, ?_⟩) ?_ ?_; rotate_left 2; (focus (rintro w' ⟨s0, s1, s2, s3, s4⟩; go_simp; with_reducible rfl)); (focus exact pU_)))
        refine SqOn.nil ?_; refine one_ (i := 15) (N := some 47) #[true, true, true, true, true, true, true, true, true, true, true, true, true, true, true, true, false, false, false] rfl rfl (one_of HT_.out (by kernel_rfl)) (by decide) (fun K hK => ?_); refine value_ (w1 := ?_) (v := ?_) (by rfl) rfl ?_ ?_; rotate_left 2
        · go_simp
          constructor
          · rfl
          · rfl
        have hal := bA_ (Below.refl W5.heap.size W5) (.cells #[.int .i64 ef0, .int .i64 i, .int .i64 ef2] 100); refine hK.out _ _ ⟨pw_cell_below hal hHeld.1, pw_cell_below hal hHeld.2.1, pw_cell_below hal hHeld.2.2.1, pw_cell_below hal hHeld.2.2.2.1, pw_cell_below hal hHeld.2.2.2.2⟩ (fun _ => ?_); clear hK K hal; refine norm_ (a' := ?_) ?_ ?_; rotate_left
        · show Act.put _ (some 47) _ = _; simp only [Act.put, List.setIfInBounds_toArray, List.set_cons_zero, List.set_cons_succ, i64_w, i32_w]; rfl
        have HB5 := aM_ (HBB.out.trans (HB0.out.mono (by rw [← hgx]; exact HBB.out.size))); refine one_ (i := 16) (N := some 48) #[true, true, true, true, true, true, true, true, true, true, true, true, true, true, true, true, true, false, false] rfl rfl (one_of HT_.out (by kernel_rfl)) (by decide) (fun K hK => ?_); refine Kd.R_append_step k100 (w0 := w2) w2.heap.size (by rfl) (.tmp 45) (.tmp 47) 88 100 (.agg #[(.int .i64 0), (.int .i64 0), (.int .i64 0)]) 24 rfl Tryz.underlying88 info100 rfl (by decide) (by omega) (.slice Av (rd_L51 (aheadOf (E.take j) l.length) i).length cv) (rd_L51 (aheadOf (E.take j) l.length) i) ⟨ef0, i, ef2⟩ [.int .i64 ef0, .int .i64 i, .int .i64 ef2] ok (fun _ => False) rfl rfl (k100_mkM _ _ _ ⟨ef0, i, ef2⟩) (fun _ hk => hk.elim) HFR.out HRV.out HB5.out HB5.out.size ?aL ?_
        case aL =>
          have h1 : (rd_L51 (aheadOf (E.take j) l.length) i).length ≤ 100000 := by
            rw [aheadOf_at _ _ _ HIL.out]; exact Nat.le_trans (List.length_filter_le _ _) (by rw [List.length_take]; omega)
          omega
        intro v1 w7 hR1 hb1 hg1 _; obtain ⟨hbox, hc1, hf1, hB12, hPL⟩ := HBK.out v1 w7 hR1 hg1
        have hgx7 : w7.heap[gx]? = some (.cells #[.int .i64 ef0, .int .i64 i, .int .i64 ef2] 100 (0, 0)) := blk_grown HBX.out hg1 (fun he => by
          have := HLT.out gx he.symm
          omega)
        refine hK.out _ _ ⟨(bC_ hbox 1).trans rfl, (bC_ hgx7 0).trans rfl, (bC_ hgx7 1).trans rfl, (bC_ hgx7 2).trans rfl, hc1⟩ (fun _ => ?_); obtain ⟨Av1, cv1, hv1⟩ := Kd.R_slice hR1; simp only [List.length_append, List.length_cons, List.length_nil, Nat.zero_add] at hv1; subst hv1; have HPL7 := aM_ hPL; have HB7 := aM_ hb1; clear hK K hR1 hg1 hbox hgx7 hPL hb1 HPL; refine norm_ (a' := ?_) ?_ ?_; rotate_left
        · show Act.put _ (some 48) _ = _; simp only [Act.put, List.setIfInBounds_toArray, List.set_cons_zero, List.set_cons_succ, i64_w, i32_w]; rfl
        refine pure_ (i := 17) (N := some 49) (v := ?_) (a' := ?_) #[true, true, true, true, true, true, true, true, true, true, true, true, true, true, true, true, true, true, false] rfl rfl (any_of HT_.out (by kernel_rfl)) (fun _ _ _ h => h) (Or.inl ⟨by rfl, ?_⟩) ?_ ?_; rotate_left
        · intro w'
          go_simp
          with_reducible rfl
        rotate_left
        · simp only [Act.put, List.setIfInBounds_toArray, List.set_cons_zero, List.set_cons_succ, i64_w, i32_w]; rfl
        refine last_ (i := 18) (N := none) #[true, true, true, true, true, true, true, true, true, true, true, true, true, true, true, true, true, true, true] rfl rfl (one_of HT_.out (by kernel_rfl)) (by decide) (fun K hK => ?_); refine skip_ (w1 := ?_) (by rfl) rfl ?_ ?_; rotate_left
        · go_simp
          rfl
        refine hK.out _ _ ?_; clear hK K hc1 hf1; refine done_ (done_of HT_.out (by kernel_rfl)) ?_; have HB8 := aM_ (HB7.out.setCell (p := ⟨g12, i, none⟩) hB12 (.slice Av1 ((rd_L51 (aheadOf (E.take j) l.length) i).length + 1) cv1)); clear HB7 HB5 HB0 HBX HRV HFR HBK HM1 HC12 HT_ HW_ hHeld; generalize w7.setCell ⟨g12, i, none⟩ (.slice Av1 ((rd_L51 (aheadOf (E.take j) l.length) i).length + 1) cv1) = W8 at HPL7 HB8 ⊢; go_wp2; refine ⟨⟨j + 1, by omega, by congr 1, ⟨?_⟩, ⟨HB8.out⟩⟩, ?_⟩
        · rw [HTK.out, aheadOf_snoc _ _ _ (Int.natCast_nonneg _) (by simpa using HIL.out)]; exact HPL7.out
        · simp [intOf]; omega
      · obtain rfl : j = E.length := by omega
        have q1 : ((E.length : Int) < (E.length : Int)) = False := eq_false (by omega); rw [List.take_length] at HPL; go_wp2
        go_loopw [53] (fun i wr => ∃ (m : Nat) (vA : Value), m ≤ l.length ∧ i = .int .i64 m ∧ As_ (PLI w2.heap.size g Al A12 A15 A18 A21 cl c12 c15 c18 c21 l.length vA (List.replicate m (-1)) (aheadOf E l.length) U H wr) ∧ As_ (Below w2.heap.size w2 wr)) (fun i _ => l.length - (intOf i).toNat)
        case atStart => exact ⟨0, _, Nat.zero_le _, rfl, ⟨HPL.out⟩, ⟨HBB.out⟩⟩
        case round =>
          clear HPL HBB; obtain ⟨m, vA, hm, rfl, HPL, HBB⟩ := hrel
          by_cases hlt : m < l.length
          · obtain ⟨Aa, ca, hvA⟩ := Kd.R_slice HPL.out.ha; rw [List.length_replicate] at hvA; subst hvA; have q1 : ((m : Int) < (l.length : Int)) = True := eq_true (by omega); have hw2 : wrap64 ((m : Int) + 1) = ((m + 1 : Nat) : Int) := by unfold wrap64; omega
            have z4 : wr.cell? ⟨g, 4, none⟩ = some (.slice Aa m ca) := (bC_ HPL.out.box 4).trans rfl
            go_wp2_with ((with_reducible refine gate_builtin (b := .append) (xs := #[.tmp 59, .tmp 60]) rfl ?_); at_builtin; refine Kd.R_append (Kd.int .i64) (w0 := w2) w2.heap.size rfl (.tmp 59) (.tmp 60) 25 3 (.int .i64 0) 8 rfl Tryz.underlying25 info3 rfl (by decide) (by omega) (.slice Aa m ca) (List.replicate m (-1)) (-1) [.int .i64 (-1)] (fun _ => True) (fun _ => False) rfl rfl rfl (fun _ hk => hk.elim) (fun _ _ => trivial) HPL.out.ha HBB.out HBB.out.size (by rw [List.length_replicate]; omega) ?_; intro v1 w7 hR1 hb1 hg1 hat1; obtain ⟨A1, c1, hv1⟩ := Kd.R_slice hR1; simp only [List.length_append, List.length_replicate, List.length_cons, List.length_nil, Nat.zero_add] at hv1; subst hv1; obtain ⟨hbx7, hPL7⟩ := HPL.out.push hR1 hg1 hat1; have HPL7 := aM_ hPL7; have HB8 := aM_ (hb1.setCell (p := ⟨g, 4, none⟩) GB.out (.slice A1 (m + 1) c1)); have z7 : w7.cell? ⟨g, 4, none⟩ = some (.slice Aa m ca) := (bC_ hbx7 4).trans rfl; have f7 := bZ_ hbx7 4; clear hR1 hb1 hg1 hat1 hbx7 hPL7 z4)
            refine ⟨⟨m + 1, _, by omega, by congr 1, ⟨by rw [List.replicate_succ']; exact HPL7.out⟩, ⟨HB8.out⟩⟩, ?_⟩; simp [intOf]; omega
          · obtain rfl : m = l.length := by omega
            have q2 : ((l.length : Int) < (l.length : Int)) = False := eq_false (by omega); go_wp2; go_ret; exact ⟨w2.heap.size, g, A12, A15, A18, A21, c12, c15, c18, c21, _, rfl, HBW.out.size, GB.out, HPL.out, Kd.F_below (Kd.C_F k24_heap HL.out) HBB.out, HBW.out.trans (HBB.out.mono HBW.out.size)⟩
end
section
attribute [local go_sem] Oper.semAt_some
def mayOp (op s : Int) : Bool :=
  if op = 0 then true else if op = 14 ∨ op = 15 ∨ op = 16 ∨ op = 17 ∨ op = 20 then s == 3 else if op = 18 ∨ op = 19 ∨ op = 21 then s == 1 else if op = 24 ∨ op = 25 ∨ op = 26 ∨ op = 27 then s == 2
  else if 28 ≤ op then s == 0 else s == 0 || s == 1
theorem may_op_eq {k : Nat} (hk : 10 ≤ k) (op s : Int) (h0 : 0 ≤ op) (h1 : op ≤ 33) (s0 : 0 ≤ s) (s1 : s ≤ 3) : isa_May.f k op s = some (mayOp op s) := by
  refine at_rounds (isa_May.mono op s) hk ?_; have hs : s = 0 ∨ s = 1 ∨ s = 2 ∨ s = 3 := by omega
  rcases hs with rfl | rfl | rfl | rfl
  · exact upto34 (p := fun op => isa_May.f 10 op 0 = some (mayOp op 0)) (by decide) op h0 h1
  · exact upto34 (p := fun op => isa_May.f 10 op 1 = some (mayOp op 1)) (by decide) op h0 h1
  · exact upto34 (p := fun op => isa_May.f 10 op 2 = some (mayOp op 2)) (by decide) op h0 h1
  · exact upto34 (p := fun op => isa_May.f 10 op 3 = some (mayOp op 3)) (by decide) op h0 h1
theorem may_goes (op : Int) (h0 : 0 ≤ op) (h1 : op ≤ 33) : ∃ s : Int, 0 ≤ s ∧ s ≤ 3 ∧ mayOp op s = true :=
  upto34 (p := fun op => ∃ s : Int, 0 ≤ s ∧ s ≤ 3 ∧ mayOp op s = true) (fun n => by
    have h : mayOp (n.val : Int) 0 = true ∨ mayOp (n.val : Int) 1 = true ∨ mayOp (n.val : Int) 2 = true ∨ mayOp (n.val : Int) 3 = true := by revert n; decide
    rcases h with h | h | h | h
    · exact ⟨0, by omega, by omega, h⟩
    · exact ⟨1, by omega, by omega, h⟩
    · exact ⟨2, by omega, by omega, h⟩
    · exact ⟨3, by omega, by omega, h⟩) op h0 h1
def mayAt (l : List S24) (j : Nat) (s : Int) : Bool := mayOp (J24 l j).f0 s
def x0F (n : Nat) : PSt := ⟨List.replicate n (-1), List.replicate n 0, n⟩
def cycF (l : List S24) : PSt := runN (mayAt l) l.length (edges l) (urges l) (heights l) (4 * l.length) 0 (x0F l.length)
theorem mayL_parts {l : List S24} (h : mayL l = true) : l.length ≤ 200 ∧ ∀ x ∈ l, plainI x = true := by
  unfold mayL allPlain at h; simp only [Bool.and_eq_true, decide_eq_true_eq, List.all_eq_true] at h; exact h
theorem plain_ok {x : S24} (h : plainI x = true) : okI x = true := by
  unfold plainI at h; simp only [Bool.and_eq_true] at h; exact h.1
theorem mayL_ok {l : List S24} (h : mayL l = true) : okA l := fun x hx => plain_ok ((mayL_parts h).2 x hx)
theorem edges_few (l : List S24) (h : l.length ≤ 200) : (edges l).length ≤ 40000 := by
  have h1 := edges_len l l.length 0; have h2 : l.length * l.length ≤ 200 * 200 := Nat.mul_le_mul h h; unfold edges; omega
theorem fine_of {l : List S24} (ho : okA l) : PFine (mayAt l) l.length (edges l) := by
  refine ⟨fun e he => ?_, fun i hi => ?_⟩
  · obtain ⟨i, t, h1, h2, h3, h4⟩ := edges_range l _ _ e he; have h5 := edges_dist l e he; exact ⟨i, t, h1, h2, h3, h4, h5.1, h5.2⟩
  · have hx := okI_op (okA_L ho i hi); exact may_goes _ hx.1 hx.2
theorem rd_replicate (n i : Nat) (v : Int) (h : i < n) : rd (List.replicate n v) (i : Int) = v := by
  rw [rd_lt _ i (by simpa using h)]; simp
theorem opens_replicate (n : Nat) : opens_ (List.replicate n (-1)) = n := by
  unfold opens_; rw [List.countP_replicate]; simp
theorem good0 (n : Nat) : PGood n (-1) (x0F n) := by
  refine ⟨by simp [x0F], by simp [x0F], ?_, fun i hi => ?_, fun i hi => ?_⟩
  · show (n : Int) = (opens_ (List.replicate n (-1)) : Int); rw [opens_replicate]
  · show -1 ≤ rd (List.replicate n (-1)) i ∧ _; rw [rd_replicate n i _ hi]; exact ⟨Int.le_refl _, by show rd (List.replicate n (-1)) i ≤ -1; rw [rd_replicate n i _ hi]; exact Int.le_refl _⟩
  · show 0 ≤ rd (List.replicate n 0) i ∧ rd (List.replicate n 0) i ≤ 3; rw [rd_replicate n i _ hi]; omega
theorem cycF_ends {l : List S24} (ho : okA l) : (cycF l).left = 0 ∧ PGood l.length (4 * l.length - 1) (cycF l) := by
  have h := run_ends (U := urges l) (H := heights l) (fine_of ho) l.length 0 (x0F l.length) (good0 l.length) (Int.le_refl _) (Int.le_refl _) (4 * l.length) (Nat.le_refl _); refine ⟨h.1, ?_⟩; have h2 := h.2; rw [show (0 : Int) - 1 + 4 * (l.length : Int) = 4 * l.length - 1 by omega] at h2; exact h2
theorem wrapS (x : Int) (h0 : -1000000 ≤ x) (h1 : x ≤ 1000000) : wrap64 x = x := by unfold wrap64; omega
theorem ready_of {l : List S24} (hl : l.length ≤ 200) (x : PSt) (c : Int) (hg : PGood l.length c x) (c0 : 0 ≤ c) (c1 : c ≤ 1000) (i : Nat) (hi : i < l.length) :
    readyP (aheadOf (edges l) l.length) x.at_ i c = (decide (rd x.at_ i < 0) && rdy (edges l) x.at_ i c) := by
  unfold readyP rdy; rw [aheadOf_at _ _ _ hi]; congr 1; rw [List.any_filter, List.not_any_eq_all_not]; rw [Bool.eq_iff_iff, List.all_eq_true, List.all_eq_true]; refine forall_congr' (fun e => forall_congr' (fun he => ?_)); obtain ⟨a, t, e0, e1, hat, htn⟩ := edges_range l _ _ e he; have hd := edges_dist l e he; have hu := hg.up a (by omega)
  have h1 : waitsE x.at_ c e = !(decide (0 ≤ rd x.at_ e.f0) && decide (rd x.at_ e.f0 + e.f2 ≤ c)) := by
    unfold waitsE; rw [e0, wrapS _ (by omega) (by omega)]; rw [Bool.eq_iff_iff]; simp; omega
  rw [h1]; simp only [bne]; generalize (decide (0 ≤ rd x.at_ e.f0) && decide (rd x.at_ e.f0 + e.f2 ≤ c)) = X; generalize (e.f1 == (i : Int)) = Y
  cases X <;> cases Y <;> decide
structure PEnd (B g : Nat) (Al : Option Addr) (cl n : Nat) (va vs : Value) (at_ sl : List Int) (W : World) : Prop where
  box : ∃ v1 v2 v3 v6, W.heap[g]? = some (.cells #[.slice Al n cl, v1, v2, v3, va, vs, v6] 79 (0, 0))
  ra : (Kd.int .i64).R 3 W B (fun k => some k ≠ vs.ownBlock) va at_
  rs : (Kd.int .i64).R 3 W B (fun k => some k ≠ va.ownBlock) vs sl
section
variable {B g : Nat} {Al A12 A15 A18 A21 : Option Addr} {cl c12 c15 c18 c21 n : Nat} {vA : Value} {XA : List Int} {AH : List (List S100)} {U H : List Int} {W W1 : World}
theorem PLI.ends (h : PLI B g Al A12 A15 A18 A21 cl c12 c15 c18 c21 n vA XA AH U H W) : PEnd B g Al cl n vA (.slice A21 n c21) XA (List.replicate n 0) W :=
  ⟨⟨_, _, _, _, h.box⟩, Kd.R_mono (Kd.R_tight rfl h.ha) (fun k hk he => h.hs.1 k he.symm hk), h.hs⟩
theorem PLI.pm {l : List S24} (h : PLI B g Al A12 A15 A18 A21 cl c12 c15 c18 c21 l.length vA (List.replicate l.length (-1)) AH U H W) (hn : 0 < l.length) (hl : Kd.F k24 W (fun k => k < B) Al l.length l) (hB : B ≤ g) :
    ∃ ga gs ca, vA = .slice (some ⟨ga, 0, none⟩) l.length ca ∧ A21 = some ⟨gs, 0, none⟩ ∧ PM B g ga gs Al A12 A15 A18 cl c12 c15 c18 ca c21 l AH U H (x0F l.length) W := by
  obtain ⟨ga, ca, hva, hga, _, cella, hta⟩ := Kd.R_form h.ha (by simpa using hn); obtain ⟨gs, cs', hvs, hgs, _, cells, hts⟩ := Kd.R_form h.hs (by simpa using hn); rw [List.length_replicate] at hva hvs; subst hva; injection hvs with h1 h2 h3
  subst h1; have hga' : g ≠ ga := blk_ne h.box hta (by decide); have hgs' : g ≠ gs := blk_ne h.box hts (by decide); have hne : ga ≠ gs := fun he => h.hs.1 gs rfl (by rw [he]; rfl)
  refine ⟨ga, gs, ca, rfl, rfl, ⟨h.box, ⟨by simp [x0F], Kd.R_mono (Kd.R_tight rfl h.ha) (fun k hk => by simpa [Value.ownBlock] using hk)⟩, ⟨by simp [x0F], Kd.R_mono (Kd.R_tight rfl h.hs) (fun k hk => by simpa [Value.ownBlock] using hk)⟩,
    Kd.F_mono hl (fun k hk => ⟨by omega, by omega, by omega⟩), Kd.F_mono (Kd.S_F (Kd.S_types (Kd.S_types (Kd.S_types h.ah h.box (by decide)) hta (by decide)) hts (by decide))) (fun k hk => ⟨hk.1.1.2, hk.1.2, hk.2⟩),
    Kd.F_mono (Kd.R_F (Kd.R_types h.hu h.box (by decide))) (fun k hk => ⟨hk.2, fun e => hk.1.2 (by rw [e]; rfl), fun e => hk.1.1 (by rw [e]; rfl)⟩), Kd.F_mono (Kd.R_F (Kd.R_types h.hh h.box (by decide))) (fun k hk => ⟨hk.2, fun e => hk.1.2 (by rw [e]; rfl), fun e => hk.1.1 (by rw [e]; rfl)⟩), ⟨hga', hgs', hne⟩, hB⟩⟩
end
theorem PM.ends {base g ga gs : Nat} {Al Aah Au Ah : Option Addr} {cl cah cu ch ca cs : Nat} {l : List S24} {AH : List (List S100)} {U H : List Int} {x : PSt} {W : World} (h : PM base g ga gs Al Aah Au Ah cl cah cu ch ca cs l AH U H x W) :
    PEnd base g Al cl l.length (.slice (some ⟨ga, 0, none⟩) l.length ca) (.slice (some ⟨gs, 0, none⟩) l.length cs) x.at_ x.sl W :=
  ⟨⟨_, _, _, _, h.box⟩, Kd.R_mono h.rat.2 (fun k hk he => h.ne.2.2 (by subst hk; injection he)), Kd.R_mono h.rsl.2 (fun k hk he => h.ne.2.2 (by subst hk; injection he with he; exact he.symm))⟩
theorem run0_calls (g : Nat) (cs : Array Value) (w : World) (hg : w.heap[g]? = some (.cells cs 79 (0, 0))) (h6 : cs[6]? = some (.int .i64 0)) :
    Calls Tryz.prog 35 #[.pointer (some ⟨g, 0, none⟩)] w fun e w' => (∃ v, e = .returned v) ∧ w' = w := by
  have z6 : w.cell? ⟨g, 6, none⟩ = some (.int .i64 0) := (bC_ hg 6).trans h6; clear hg h6; go_enter Tryz.func35, Tryz.ntmps35; go_wp2; refine wp_loop_once ?_; go_wp2
  go_end0
  exact ⟨⟨_, rfl⟩, rfl⟩
theorem ran_calls (l : List S24) (ho : okA l) (hn : l.length ≤ 200) {B g : Nat} {Al A12 A15 A18 A21 : Option Addr} {cl c12 c15 c18 c21 : Nat} {vA : Value} {W : World}
    (h : PLI B g Al A12 A15 A18 A21 cl c12 c15 c18 c21 l.length vA (List.replicate l.length (-1)) (aheadOf (edges l) l.length) (urges l) (heights l) W) (hl : Kd.F k24 W (fun k => k < B) Al l.length l) (hB : B ≤ g) (hBW : B ≤ W.heap.size) :
    Calls Tryz.prog 35 #[.pointer (some ⟨g, 0, none⟩)] W fun e w' => (∃ v, e = .returned v) ∧ (∃ va vs, PEnd B g Al cl l.length va vs (cycF l).at_ (cycF l).sl w') ∧ Below B W w' := by
  by_cases h0 : 0 < l.length
  · obtain ⟨ga, gs, ca, rfl, rfl, hPM⟩ := h.pm h0 hl hB; refine (run_calls B g ga gs Al A12 A15 A18 cl c12 c15 c18 ca c21 l _ _ _ (mayAt l) (edges l) (x0F l.length) W hn hPM hBW (good0 _) (fine_of ho) (fun x c hg c0 c1 i hi => ready_of hn x c hg c0 c1 i hi) (fun i hi j hj => ?_) (fun s s0 s1 j hj W' => ?_)).mono ?_
    · rw [aheadOf_at _ _ _ hi] at hj ⊢; rw [rd51_at _ _ hj]; have hm := List.getElem_mem hj; obtain ⟨a, t, e0, e1, hat, htn⟩ := edges_range l _ _ _ (List.mem_filter.1 hm).1; rw [e0]; omega
    · have hx := okI_op (okA_L ho j hj); exact isa_May.calls 10 _ _ _ W' (may_op_eq (Nat.le_refl _) _ _ hx.1 hx.2 s0 s1)
    · rintro e w' ⟨hv, hP, hb⟩; exact ⟨hv, ⟨_, _, hP.ends⟩, hb⟩
  · have hz : l.length = 0 := by omega
    have he : l = [] := List.eq_nil_of_length_eq_zero hz; subst he; refine (run0_calls g _ W h.box rfl).mono ?_; rintro e w' ⟨hv, rfl⟩; exact ⟨hv, ⟨_, _, h.ends⟩, Below.refl _ _⟩
end
end Go.Proofs.YtibfkkjkahpobaaGreat.PDag
