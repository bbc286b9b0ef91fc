import Derived.Test.YtibfkkjkahpobaaGreatOf15
import Derived.Test.YtibfkkjkahpobaaGreatOf16
import Derived.Test.YtibfkkjkahpobaaGreatOf17
set_option linter.unusedVariables false
set_option linter.unusedSimpArgs false
set_option maxHeartbeats 8000000
set_option maxRecDepth 100000
open Go.RowKit Go.Proofs.YtibfkkjkahpobaaGreatW.PrintWords Go.Proofs.YtibfkkjkahpobaaGreatW.PrintLast Go.Proofs.YtibfkkjkahpobaaGreatW.PrintMore
namespace Go.Proofs.YtibfkkjkahpobaaGreat.PDag
section
attribute [local go_sem] max2_int min2_int max_two min_two max_three min_three max_four min_four
def isa_Effect.j0 : Nat → Bool → Option (Bool)
  | 0, _ => none
  | k + 1, x4 => if x4 = true then (some true) else (some false)
def isa_Effect.f (k : Nat) (a0 : Int) : Option (Bool) := if a0 = 16 then (isa_Effect.j0 k (a0 == 16)) else (if a0 = 17 then (isa_Effect.j0 k (a0 == 17)) else (if a0 = 24 then (isa_Effect.j0 k (a0 == 24)) else (if a0 = 25 then (isa_Effect.j0 k (a0 == 25)) else (if a0 = 26 then (isa_Effect.j0 k (a0 == 26)) else (if a0 = 27 then (isa_Effect.j0 k (a0 == 27)) else (if a0 = 31 then (isa_Effect.j0 k (a0 == 31)) else (if a0 = 32 then (isa_Effect.j0 k (a0 == 32)) else (isa_Effect.j0 k (a0 == 33)))))))))
theorem isa_Effect.mono_l : ∀ k, (∀ y0, LeO (isa_Effect.j0 k y0) (isa_Effect.j0 (k + 1) y0))
  | 0 => fun _ r h => by simp [isa_Effect.j0] at h
  | k + 1 => by
    have ih0 := isa_Effect.mono_l k
    · intro y0; unfold isa_Effect.j0
      repeat' first
      | (with_reducible exact ih0 _)
      | (with_reducible exact LeO.refl _)
      | (with_reducible exact LeO.none _)
      | (with_reducible refine LeO.ite ?_ ?_)
      | (with_reducible refine LeO.bind ?_ (fun _ => ?_))
      | exact LeO.none _
      | refine LeO.ite ?_ ?_
      | refine LeO.bind ?_ (fun _ => ?_)
theorem isa_Effect.mono : ∀ a0 k, LeO (isa_Effect.f k a0) (isa_Effect.f (k + 1) a0) := by
 intro a0 k; have ih0 := isa_Effect.mono_l k; unfold isa_Effect.f
 repeat' first
  | (with_reducible exact ih0 _)
  | (with_reducible exact LeO.refl _)
  | (with_reducible exact LeO.none _)
  | (with_reducible refine LeO.ite ?_ ?_)
  | (with_reducible refine LeO.bind ?_ (fun _ => ?_))
  | exact LeO.none _
  | refine LeO.ite ?_ ?_
  | refine LeO.bind ?_ (fun _ => ?_)
theorem isa_Effect.calls (k : Nat) (a0 : Int) (r : Bool) (w : World) (h : isa_Effect.f k a0 = some r) :
    Calls Tryz.prog 98 #[.int .i64 a0] w fun e w' => e = .returned (.bool r) ∧ Dr_ w w' := by
 have H : (if a0 = 16 then (isa_Effect.j0 k (a0 == 16)) else (if a0 = 17 then (isa_Effect.j0 k (a0 == 17)) else (if a0 = 24 then (isa_Effect.j0 k (a0 == 24)) else (if a0 = 25 then (isa_Effect.j0 k (a0 == 25)) else (if a0 = 26 then (isa_Effect.j0 k (a0 == 26)) else (if a0 = 27 then (isa_Effect.j0 k (a0 == 27)) else (if a0 = 31 then (isa_Effect.j0 k (a0 == 31)) else (if a0 = 32 then (isa_Effect.j0 k (a0 == 32)) else (isa_Effect.j0 k (a0 == 33)))))))))) = some r := h; clear h; have HC2 := aM_ H; clear H; go_enter Tryz.func98, Tryz.ntmps98
 go_upto_if 4 with (fail)
 go_cut [4] (fun v4 wc => ∃ (kq : Nat) (x4_1 : Bool), v4 = .bool x4_1 ∧ As_ (isa_Effect.j0 kq x4_1 = some r) ∧ As_ (kq ≤ k) ∧ Dr_ w wc)
 case first =>
  have H := HC2.out; clear HC2
  by_cases c3 : a0 = 16
  ·rw [if_pos c3] at H; have c3b0 := bH_ c3; have c3b1 := bF_ c3; clear c3
   (first | rw [c3b0] | (simp only [i64_w, i32_w]; rw [c3b0]) | skip)
   replace H := aM_ H; go_wp2
   go_meet
   case rel => exact ⟨_, ((a0 == 16)), eQ_, H, ⟨by first | omega | exact Nat.le_refl _⟩, dR_⟩
  rw [if_neg c3] at H; have c3b0 := bE_ c3; have c3b1 := bG_ c3
  (first | rw [c3b0] | (simp only [i64_w, i32_w]; rw [c3b0]) | skip)
  by_cases c4 : a0 = 17
  ·rw [if_pos c4] at H; have c4b0 := bH_ c4; have c4b1 := bF_ c4; clear c4; replace H := aM_ H; go_wp2
   go_meet
   case rel => exact ⟨_, ((a0 == 17)), eQ_, H, ⟨by first | omega | exact Nat.le_refl _⟩, dR_⟩
  rw [if_neg c4] at H; have c4b0 := bE_ c4; have c4b1 := bG_ c4
  by_cases c5 : a0 = 24
  ·rw [if_pos c5] at H; have c5b0 := bH_ c5; have c5b1 := bF_ c5; clear c5; replace H := aM_ H; go_wp2
   go_meet
   case rel => exact ⟨_, ((a0 == 24)), eQ_, H, ⟨by first | omega | exact Nat.le_refl _⟩, dR_⟩
  rw [if_neg c5] at H; have c5b0 := bE_ c5; have c5b1 := bG_ c5
  by_cases c6 : a0 = 25
  ·rw [if_pos c6] at H; have c6b0 := bH_ c6; have c6b1 := bF_ c6; clear c6; replace H := aM_ H; go_wp2
   go_meet
   case rel => exact ⟨_, ((a0 == 25)), eQ_, H, ⟨by first | omega | exact Nat.le_refl _⟩, dR_⟩
  rw [if_neg c6] at H; have c6b0 := bE_ c6; have c6b1 := bG_ c6
  by_cases c7 : a0 = 26
  ·rw [if_pos c7] at H; have c7b0 := bH_ c7; have c7b1 := bF_ c7; clear c7; replace H := aM_ H; go_wp2
   go_meet
   case rel => exact ⟨_, ((a0 == 26)), eQ_, H, ⟨by first | omega | exact Nat.le_refl _⟩, dR_⟩
  rw [if_neg c7] at H; have c7b0 := bE_ c7; have c7b1 := bG_ c7
  by_cases c8 : a0 = 27
  ·rw [if_pos c8] at H; have c8b0 := bH_ c8; have c8b1 := bF_ c8; clear c8; replace H := aM_ H; go_wp2
   go_meet
   case rel => exact ⟨_, ((a0 == 27)), eQ_, H, ⟨by first | omega | exact Nat.le_refl _⟩, dR_⟩
  rw [if_neg c8] at H; have c8b0 := bE_ c8; have c8b1 := bG_ c8
  by_cases c9 : a0 = 31
  ·rw [if_pos c9] at H; have c9b0 := bH_ c9; have c9b1 := bF_ c9; clear c9; replace H := aM_ H; go_wp2
   go_meet
   case rel => exact ⟨_, ((a0 == 31)), eQ_, H, ⟨by first | omega | exact Nat.le_refl _⟩, dR_⟩
  rw [if_neg c9] at H; have c9b0 := bE_ c9; have c9b1 := bG_ c9
  by_cases c10 : a0 = 32
  ·rw [if_pos c10] at H; have c10b0 := bH_ c10; have c10b1 := bF_ c10; clear c10; replace H := aM_ H; go_wp2
   go_meet
   case rel => exact ⟨_, ((a0 == 32)), eQ_, H, ⟨by first | omega | exact Nat.le_refl _⟩, dR_⟩
  rw [if_neg c10] at H; have c10b0 := bE_ c10; have c10b1 := bG_ c10; replace H := aM_ H; go_wp2
  go_meet
  case rel => exact ⟨_, ((a0 == 33)), eQ_, H, ⟨by first | omega | exact Nat.le_refl _⟩, dR_⟩
 case rest =>
  clear HC2; obtain ⟨kq, x4_1, rfl, HA, HJ1, ⟨mc1, rfl⟩⟩ := hcut
  cases kq with
  | zero => exact absurd HA.out (by simp [isa_Effect.j0])
  | succ kj1 =>
   have H := HA.out; clear HA; simp only [isa_Effect.j0] at H
   by_cases c11 : x4_1 = true
   ·subst c11; rw [if_pos rfl] at H; obtain rfl := oI_ H; go_wp2; go_ret; exact ⟨eQ_, dR_⟩
   replace c11 := eF_ c11; subst c11; rw [if_neg Bool.false_ne_true] at H; obtain rfl := oI_ H; go_wp2; go_ret; exact ⟨eQ_, dR_⟩
def dag_writes.f (k : Nat) (a0_0 : Int) (a0_1 : Int) (a0_2 : Int) (a0_3 : Int) (a0_4 : Int) (a0_5 : ByteArray) (a1 : Int) : Option (Bool) := (isa_Shape.f k a0_0).bind fun t246 => ((isa_HasD.f t246).bind fun t247 => (if t247 = true then (some (a0_1 == a1)) else (some false)))
theorem dag_writes.calls (k : Nat) (a0_0 : Int) (a0_1 : Int) (a0_2 : Int) (a0_3 : Int) (a0_4 : Int) (a0_5 : ByteArray) (a1 : Int) (r : Bool) (w : World) (h : dag_writes.f k a0_0 a0_1 a0_2 a0_3 a0_4 a0_5 a1 = some r) :
    Calls Tryz.prog 102 #[.agg #[.int .i64 a0_0, .int .i64 a0_1, .int .i64 a0_2, .int .i64 a0_3, .int .i64 a0_4, .string a0_5], .int .i64 a1] w fun e w' => e = .returned (.bool r) ∧ Below w.heap.size w w' := by
 have hu24 := Tryz.underlying24; have HB := aM_ (Below.refl w.heap.size w); have H : ((isa_Shape.f k a0_0).bind fun t246 => ((isa_HasD.f t246).bind fun t247 => (if t247 = true then (some (a0_1 == a1)) else (some false)))) = some r := h; clear h; obtain ⟨t246, A3, H⟩ := oB_ H; obtain ⟨t247, A4, H⟩ := oB_ H
 by_cases c5 : t247 = true
 ·subst c5; rw [if_pos rfl] at H; obtain rfl := oI_ H; go_enter Tryz.func102, Tryz.ntmps102
  go_wp2_with (first | ((with_reducible refine gate_dst (N := 2) rfl ?_); refine bX_ (N := 2) (cs := #[.int .i64 a0_0, .int .i64 a0_1, .int .i64 a0_2, .int .i64 a0_3, .int .i64 a0_4, .string a0_5]) (t := 24) ?_; intro gb245 hg w6 hbox hb; replace BK245 := aM_ (hbox); replace GW245 := aM_ (gE_ hg (bl_ HB)); replace GE245 := aM_ (gE_ hg (bl_ HB)); replace HB := aM_ (bT_ (bl_ HB) hb); clear hb hbox hg; obtain ⟨hcz7_0, hcz7_1, hcz7_2, hcz7_3, hcz7_4, hcz7_5⟩ := cl6_ BK245.out; obtain ⟨hfz7_0, hfz7_1, hfz7_2, hfz7_3, hfz7_4, hfz7_5⟩ := fz6_ BK245.out) | ((with_reducible refine gC_ (f := 89) rfl ?_); refine gL_ (some 7) Tryz.func89 #[.int .i64 a0_0] rfl ?_; (with_reducible refine (isa_Shape.calls k a0_0 t246 _ A3.out).mono ?_); rintro e w' ⟨rfl, ⟨nd, rfl⟩⟩; refine ⟨_, rfl, ?_⟩) | ((with_reducible refine gC_ (f := 91) rfl ?_); refine gL_ (some 8) Tryz.func91 #[.int .i64 t246] rfl ?_; (with_reducible refine (isa_HasD.calls t246 true _ A4.out).mono ?_); rintro e w' ⟨rfl, ⟨nd, rfl⟩⟩; refine ⟨_, rfl, ?_⟩))
  go_ret; exact ⟨eR_, bs_ HB GE245⟩
 replace c5 := eF_ c5; subst c5; rw [if_neg Bool.false_ne_true] at H; obtain rfl := oI_ H; go_enter Tryz.func102, Tryz.ntmps102
 go_wp2_with (first | ((with_reducible refine gate_dst (N := 2) rfl ?_); refine bX_ (N := 2) (cs := #[.int .i64 a0_0, .int .i64 a0_1, .int .i64 a0_2, .int .i64 a0_3, .int .i64 a0_4, .string a0_5]) (t := 24) ?_; intro gb245 hg w8 hbox hb; replace BK245 := aM_ (hbox); replace GW245 := aM_ (gE_ hg (bl_ HB)); replace GE245 := aM_ (gE_ hg (bl_ HB)); replace HB := aM_ (bT_ (bl_ HB) hb); clear hb hbox hg; obtain ⟨hcz9_0, hcz9_1, hcz9_2, hcz9_3, hcz9_4, hcz9_5⟩ := cl6_ BK245.out; obtain ⟨hfz9_0, hfz9_1, hfz9_2, hfz9_3, hfz9_4, hfz9_5⟩ := fz6_ BK245.out) | ((with_reducible refine gC_ (f := 89) rfl ?_); refine gL_ (some 7) Tryz.func89 #[.int .i64 a0_0] rfl ?_; (with_reducible refine (isa_Shape.calls k a0_0 t246 _ A3.out).mono ?_); rintro e w' ⟨rfl, ⟨nd, rfl⟩⟩; refine ⟨_, rfl, ?_⟩) | ((with_reducible refine gC_ (f := 91) rfl ?_); refine gL_ (some 8) Tryz.func91 #[.int .i64 t246] rfl ?_; (with_reducible refine (isa_HasD.calls t246 false _ A4.out).mono ?_); rintro e w' ⟨rfl, ⟨nd, rfl⟩⟩; refine ⟨_, rfl, ?_⟩))
 go_ret; exact ⟨eR_, bs_ HB GE245⟩
def IsS24 (w0 W : World) (g : Nat) (f0 : Int) (f1 : Int) (f2 : Int) (f3 : Int) (f4 : Int) (f5 : ByteArray) : Prop := W.heap[g]? = some (.cells #[.int .i64 f0, .int .i64 f1, .int .i64 f2, .int .i64 f3, .int .i64 f4, .string f5] 24 (0, 0)) ∧ w0.heap.size ≤ g
theorem IsS24.grown {w0 W : World} {g : Nat} {f0 : Int} {f1 : Int} {f2 : Int} {f3 : Int} {f4 : Int} {f5 : ByteArray} {W1 : World} {row : Option Nat} (h : IsS24 w0 W g f0 f1 f2 f3 f4 f5) (hw : W.grownBy W1 row) (hne : some g ≠ row) : IsS24 w0 W1 g f0 f1 f2 f3 f4 f5 := by
 obtain ⟨hb, hg⟩ := h; exact ⟨blk_grown hb hw hne, hg⟩
theorem IsS24.kept {w0 W : World} {g : Nat} {f0 : Int} {f1 : Int} {f2 : Int} {f3 : Int} {f4 : Int} {f5 : ByteArray} {W1 : World} {S : Nat → Prop} (h : IsS24 w0 W g f0 f1 f2 f3 f4 f5) (hk : Kept W W1 S) (hne : ¬ S g) : IsS24 w0 W1 g f0 f1 f2 f3 f4 f5 := by
 obtain ⟨hb, hg⟩ := h; exact ⟨blk_kept hb hk hne, hg⟩
theorem IsS24.below {w0 W : World} {g : Nat} {f0 : Int} {f1 : Int} {f2 : Int} {f3 : Int} {f4 : Int} {f5 : ByteArray} {W1 : World} (h : IsS24 w0 W g f0 f1 f2 f3 f4 f5) (hw : Below W.heap.size W W1) : IsS24 w0 W1 g f0 f1 f2 f3 f4 f5 := h.grown (grown_of_below hw none) (by simp)
theorem IsS24.alloc {w0 W : World} {g : Nat} {f0 : Int} {f1 : Int} {f2 : Int} {f3 : Int} {f4 : Int} {f5 : ByteArray} (h : IsS24 w0 W g f0 f1 f2 f3 f4 f5) (o : Obj) : IsS24 w0 (W.alloc o) g f0 f1 f2 f3 f4 f5 := h.below (bA_ (Below.refl _ _) o)
theorem IsS24.drewN {w0 W : World} {g : Nat} {f0 : Int} {f1 : Int} {f2 : Int} {f3 : Int} {f4 : Int} {f5 : ByteArray} (h : IsS24 w0 W g f0 f1 f2 f3 f4 f5) (m : Nat) : IsS24 w0 (W.drewN m) g f0 f1 f2 f3 f4 f5 := h
theorem IsS24.drew {w0 W : World} {g : Nat} {f0 : Int} {f1 : Int} {f2 : Int} {f3 : Int} {f4 : Int} {f5 : ByteArray} (h : IsS24 w0 W g f0 f1 f2 f3 f4 f5) : IsS24 w0 W.drew g f0 f1 f2 f3 f4 f5 := h
theorem IsS24.at_ {w0 W : World} {g : Nat} {f0 : Int} {f1 : Int} {f2 : Int} {f3 : Int} {f4 : Int} {f5 : ByteArray} {w' : World} {m : Nat} (hq : W.drewN m = w') (h : IsS24 w0 W g f0 f1 f2 f3 f4 f5) : IsS24 w0 w' g f0 f1 f2 f3 f4 f5 := by subst hq; exact IsS24.drewN h m
theorem IsS24.apart {w0 W : World} {g : Nat} {f0 : Int} {f1 : Int} {f2 : Int} {f3 : Int} {f4 : Int} {f5 : ByteArray} {α : Type} {d : Kd α} {e : Nat} {base : Nat} {ok : Nat → Prop} {v : Value} {xs : List α} (h : IsS24 w0 W g f0 f1 f2 f3 f4 f5) (ho : d.R e W base ok v xs) (ht : ∀ q, q ∈ e :: d.E → q ≠ 24) : d.R e W base (fun k => ok k ∧ k ≠ g) v xs := by
 obtain ⟨hb, hg⟩ := h; exact Kd.R_types ho hb ht
theorem IsS24.own_ne {w0 W : World} {g : Nat} {f0 : Int} {f1 : Int} {f2 : Int} {f3 : Int} {f4 : Int} {f5 : ByteArray} {α : Type} {d : Kd α} {e : Nat} {base : Nat} {ok : Nat → Prop} {v : Value} {xs : List α} (h : IsS24 w0 W g f0 f1 f2 f3 f4 f5) (ho : d.R e W base ok v xs) (ht : e ≠ 24) : some g ≠ v.ownBlock := by
 obtain ⟨hb, hg⟩ := h; exact Kd.R_ne ho hb ht
theorem IsS24.lt {w0 W : World} {g : Nat} {f0 : Int} {f1 : Int} {f2 : Int} {f3 : Int} {f4 : Int} {f5 : ByteArray} (h : IsS24 w0 W g f0 f1 f2 f3 f4 f5) : g < W.heap.size := by
 obtain ⟨hb, hg⟩ := h; exact blk_lt hb
theorem IsS24.ge {w0 W : World} {g : Nat} {f0 : Int} {f1 : Int} {f2 : Int} {f3 : Int} {f4 : Int} {f5 : ByteArray} (h : IsS24 w0 W g f0 f1 f2 f3 f4 f5) : w0.heap.size ≤ g := by
 obtain ⟨hb, hg⟩ := h; exact hg
theorem cellS24_0 {W : World} {g : Nat} {f0 : Int} {f1 : Int} {f2 : Int} {f3 : Int} {f4 : Int} {f5 : ByteArray} (h : W.heap[g]? = some (.cells #[.int .i64 f0, .int .i64 f1, .int .i64 f2, .int .i64 f3, .int .i64 f4, .string f5] 24 (0, 0))) : W.cell? ⟨g, 0, none⟩ = some (.int .i64 f0) := (bC_ h 0).trans rfl
theorem IsS24.set_0 {w0 W : World} {g : Nat} {f0 : Int} {f1 : Int} {f2 : Int} {f3 : Int} {f4 : Int} {f5 : ByteArray} (h : IsS24 w0 W g f0 f1 f2 f3 f4 f5) (x : Int) : IsS24 w0 (W.setCell ⟨g, 0, none⟩ (.int .i64 x)) g x f1 f2 f3 f4 f5 := by
 obtain ⟨hb, hg⟩ := h; exact ⟨by simpa using blk_set hb 0 (.int .i64 x), hg⟩
theorem cellS24_1 {W : World} {g : Nat} {f0 : Int} {f1 : Int} {f2 : Int} {f3 : Int} {f4 : Int} {f5 : ByteArray} (h : W.heap[g]? = some (.cells #[.int .i64 f0, .int .i64 f1, .int .i64 f2, .int .i64 f3, .int .i64 f4, .string f5] 24 (0, 0))) : W.cell? ⟨g, 1, none⟩ = some (.int .i64 f1) := (bC_ h 1).trans rfl
theorem IsS24.set_1 {w0 W : World} {g : Nat} {f0 : Int} {f1 : Int} {f2 : Int} {f3 : Int} {f4 : Int} {f5 : ByteArray} (h : IsS24 w0 W g f0 f1 f2 f3 f4 f5) (x : Int) : IsS24 w0 (W.setCell ⟨g, 1, none⟩ (.int .i64 x)) g f0 x f2 f3 f4 f5 := by
 obtain ⟨hb, hg⟩ := h; exact ⟨by simpa using blk_set hb 1 (.int .i64 x), hg⟩
theorem cellS24_2 {W : World} {g : Nat} {f0 : Int} {f1 : Int} {f2 : Int} {f3 : Int} {f4 : Int} {f5 : ByteArray} (h : W.heap[g]? = some (.cells #[.int .i64 f0, .int .i64 f1, .int .i64 f2, .int .i64 f3, .int .i64 f4, .string f5] 24 (0, 0))) : W.cell? ⟨g, 2, none⟩ = some (.int .i64 f2) := (bC_ h 2).trans rfl
theorem IsS24.set_2 {w0 W : World} {g : Nat} {f0 : Int} {f1 : Int} {f2 : Int} {f3 : Int} {f4 : Int} {f5 : ByteArray} (h : IsS24 w0 W g f0 f1 f2 f3 f4 f5) (x : Int) : IsS24 w0 (W.setCell ⟨g, 2, none⟩ (.int .i64 x)) g f0 f1 x f3 f4 f5 := by
 obtain ⟨hb, hg⟩ := h; exact ⟨by simpa using blk_set hb 2 (.int .i64 x), hg⟩
theorem cellS24_3 {W : World} {g : Nat} {f0 : Int} {f1 : Int} {f2 : Int} {f3 : Int} {f4 : Int} {f5 : ByteArray} (h : W.heap[g]? = some (.cells #[.int .i64 f0, .int .i64 f1, .int .i64 f2, .int .i64 f3, .int .i64 f4, .string f5] 24 (0, 0))) : W.cell? ⟨g, 3, none⟩ = some (.int .i64 f3) := (bC_ h 3).trans rfl
theorem IsS24.set_3 {w0 W : World} {g : Nat} {f0 : Int} {f1 : Int} {f2 : Int} {f3 : Int} {f4 : Int} {f5 : ByteArray} (h : IsS24 w0 W g f0 f1 f2 f3 f4 f5) (x : Int) : IsS24 w0 (W.setCell ⟨g, 3, none⟩ (.int .i64 x)) g f0 f1 f2 x f4 f5 := by
 obtain ⟨hb, hg⟩ := h; exact ⟨by simpa using blk_set hb 3 (.int .i64 x), hg⟩
theorem cellS24_4 {W : World} {g : Nat} {f0 : Int} {f1 : Int} {f2 : Int} {f3 : Int} {f4 : Int} {f5 : ByteArray} (h : W.heap[g]? = some (.cells #[.int .i64 f0, .int .i64 f1, .int .i64 f2, .int .i64 f3, .int .i64 f4, .string f5] 24 (0, 0))) : W.cell? ⟨g, 4, none⟩ = some (.int .i64 f4) := (bC_ h 4).trans rfl
theorem IsS24.set_4 {w0 W : World} {g : Nat} {f0 : Int} {f1 : Int} {f2 : Int} {f3 : Int} {f4 : Int} {f5 : ByteArray} (h : IsS24 w0 W g f0 f1 f2 f3 f4 f5) (x : Int) : IsS24 w0 (W.setCell ⟨g, 4, none⟩ (.int .i64 x)) g f0 f1 f2 f3 x f5 := by
 obtain ⟨hb, hg⟩ := h; exact ⟨by simpa using blk_set hb 4 (.int .i64 x), hg⟩
theorem cellS24_5 {W : World} {g : Nat} {f0 : Int} {f1 : Int} {f2 : Int} {f3 : Int} {f4 : Int} {f5 : ByteArray} (h : W.heap[g]? = some (.cells #[.int .i64 f0, .int .i64 f1, .int .i64 f2, .int .i64 f3, .int .i64 f4, .string f5] 24 (0, 0))) : W.cell? ⟨g, 5, none⟩ = some (.string f5) := (bC_ h 5).trans rfl
theorem IsS24.set_5 {w0 W : World} {g : Nat} {f0 : Int} {f1 : Int} {f2 : Int} {f3 : Int} {f4 : Int} {f5 : ByteArray} (h : IsS24 w0 W g f0 f1 f2 f3 f4 f5) (x : ByteArray) : IsS24 w0 (W.setCell ⟨g, 5, none⟩ (.string x)) g f0 f1 f2 f3 f4 x := by
 obtain ⟨hb, hg⟩ := h; exact ⟨by simpa using blk_set hb 5 (.string x), hg⟩
theorem IsS24.new (w0 W : World) (f0 : Int) (f1 : Int) (f2 : Int) (f3 : Int) (f4 : Int) (f5 : ByteArray) (hB : Below w0.heap.size w0 W) : IsS24 w0 (W.alloc (.cells #[.int .i64 f0, .int .i64 f1, .int .i64 f2, .int .i64 f3, .int .i64 f4, .string f5] 24)) W.heap.size f0 f1 f2 f3 f4 f5 := ⟨by simpa using heap_alloc_new W _, hB.size⟩
def dag_reads_1.f (k : Nat) (a0 : Int) (s1_0 : Int) (s1_1 : Int) (s1_2 : Int) (s1_3 : Int) (s1_4 : Int) (s1_5 : ByteArray) : Option (Bool × Int × Int × Int × Int × Int × ByteArray) := (dag_writes.f k s1_0 s1_1 s1_2 s1_3 s1_4 s1_5 a0).bind fun t248 => (some (t248, s1_0, s1_1, s1_2, s1_3, s1_4, s1_5))
theorem dag_reads_1.calls (k : Nat) (a0 : Int) (g : Nat) (s1_0 : Int) (s1_1 : Int) (s1_2 : Int) (s1_3 : Int) (s1_4 : Int) (s1_5 : ByteArray) (r1 : Bool) (r2 : Int) (r3 : Int) (r4 : Int) (r5 : Int) (r6 : Int) (r7 : ByteArray) (w0 w : World) (hI : IsS24 w0 w g s1_0 s1_1 s1_2 s1_3 s1_4 s1_5) (hB : Below w0.heap.size w0 w) (h : dag_reads_1.f k a0 s1_0 s1_1 s1_2 s1_3 s1_4 s1_5 = some (r1, r2, r3, r4, r5, r6, r7)) :
    Calls Tryz.prog 111 #[.int .i64 a0, .pointer (some ⟨g, 0, none⟩)] w fun e w' => e = .returned (.bool r1) ∧ IsS24 w0 w' g r2 r3 r4 r5 r6 r7 ∧ Below w0.heap.size w0 w' ∧ KeepBut w w' g none := by
 have hu24 := Tryz.underlying24; have HI1 := aM_ hI; have HK := aM_ (KeepBut.refl w g none); have HL := aM_ hB.size; clear hI; have HW0 := aM_ hB.size; have HB := aM_ hB; clear hB; have H : ((dag_writes.f k s1_0 s1_1 s1_2 s1_3 s1_4 s1_5 a0).bind fun t248 => (some (t248, s1_0, s1_1, s1_2, s1_3, s1_4, s1_5))) = some (r1, r2, r3, r4, r5, r6, r7) := h; clear h; obtain ⟨t248, A3, H⟩ := oB_ H; simp only [Option.some.injEq, Prod.mk.injEq] at H; obtain ⟨rfl, rfl, rfl, rfl, rfl, rfl, rfl⟩ := H; obtain ⟨HGz4, hgz4⟩ := HI1.out; have hcz4_0 := cellS24_0 HGz4; have hcz4_1 := cellS24_1 HGz4; have hcz4_2 := cellS24_2 HGz4; have hcz4_3 := cellS24_3 HGz4; have hcz4_4 := cellS24_4 HGz4; have hcz4_5 := cellS24_5 HGz4; have hfz4_0 := bZ_ HGz4 0; have hfz4_1 := bZ_ HGz4 1; have hfz4_2 := bZ_ HGz4 2; have hfz4_3 := bZ_ HGz4 3; have hfz4_4 := bZ_ HGz4 4; have hfz4_5 := bZ_ HGz4 5; clear HGz4 hgz4; go_enter Tryz.func111, Tryz.ntmps111
 go_wp2_with (first | ((with_reducible refine gC_ (f := 102) rfl ?_); refine gL_ (some 6) Tryz.func102 #[.agg #[.int .i64 s1_0, .int .i64 s1_1, .int .i64 s1_2, .int .i64 s1_3, .int .i64 s1_4, .string s1_5], .int .i64 a0] rfl ?_; (with_reducible refine (dag_writes.calls k s1_0 s1_1 s1_2 s1_3 s1_4 s1_5 a0 t248 _ A3.out).mono ?_); rintro e w5 ⟨rfl, hb⟩; refine ⟨_, rfl, ?_⟩; replace HK := aM_ (KeepBut.trans (by repeat (first | (with_reducible first | exact HK.out | apply KeepBut.set_ | apply keep_drewN | apply keep_drew | apply keep_alloc) | exact HK.out)) (KeepBut.of_below hb g none) (.inl rfl)); replace HB := aM_ (bT_ (by repeat (first | (with_reducible first | exact HB.out | apply bA_ | apply bN_ | apply b1_ | refine bS_ ?_ (IsS24.ge HI1.out)) | exact HB.out)) hb); replace HI1 := aM_ (IsS24.below (by repeat (first | (with_reducible first | exact HI1.out | apply IsS24.alloc | apply IsS24.drewN | apply IsS24.drew | apply IsS24.set_0 | apply IsS24.set_1 | apply IsS24.set_2 | apply IsS24.set_3 | apply IsS24.set_4 | apply IsS24.set_5) | exact HI1.out)) hb)))
 go_ret; exact ⟨eR_, by repeat (first | (with_reducible first | exact HI1.out | apply IsS24.alloc | apply IsS24.drewN | apply IsS24.drew | apply IsS24.set_0 | apply IsS24.set_1 | apply IsS24.set_2 | apply IsS24.set_3 | apply IsS24.set_4 | apply IsS24.set_5) | exact HI1.out), by repeat (first | (with_reducible first | exact HB.out | apply bA_ | apply bN_ | apply b1_ | refine bS_ ?_ (IsS24.ge HI1.out)) | exact HB.out), by repeat (first | (with_reducible first | exact HK.out | apply KeepBut.set_ | apply keep_drewN | apply keep_drew | apply keep_alloc) | exact HK.out)⟩
def sI_111.l0 : Nat → List Int → Int → Int → Int → Int → Int → Int → Int → ByteArray → Option (Int × Int × Int × Int × Int × Int × ByteArray)
  | 0, _, _, _, _, _, _, _, _, _ => none
  | k + 1, x0, x7, x8, x2000, x2001, x2002, x2003, x2004, x2005 => if x8 < x7 then (if 0 ≤ x8 then (if x8 < (x0.length : Int) then ((dag_reads_1.f k (rd x0 x8) x2000 x2001 x2002 x2003 x2004 x2005).bind fun bt250 => (if bt250.1 = true then (some (x8, bt250.2.1, bt250.2.2.1, bt250.2.2.2.1, bt250.2.2.2.2.1, bt250.2.2.2.2.2.1, bt250.2.2.2.2.2.2)) else (sI_111.l0 k x0 x7 (wrap64 (x8 + 1)) bt250.2.1 bt250.2.2.1 bt250.2.2.2.1 bt250.2.2.2.2.1 bt250.2.2.2.2.2.1 bt250.2.2.2.2.2.2))) else (none)) else (none)) else (some ((-1), x2000, x2001, x2002, x2003, x2004, x2005))
def sI_111.f (k : Nat) (l0 : List Int) (s1_0 : Int) (s1_1 : Int) (s1_2 : Int) (s1_3 : Int) (s1_4 : Int) (s1_5 : ByteArray) : Option (Int × Int × Int × Int × Int × Int × ByteArray) := sI_111.l0 k l0 (l0.length : Int) 0 s1_0 s1_1 s1_2 s1_3 s1_4 s1_5
theorem sI_111.calls (k : Nat) (A0 : Option Addr) (c0 : Nat) (l0 : List Int) (g : Nat) (s1_0 : Int) (s1_1 : Int) (s1_2 : Int) (s1_3 : Int) (s1_4 : Int) (s1_5 : ByteArray) (r1 : Int) (r2 : Int) (r3 : Int) (r4 : Int) (r5 : Int) (r6 : Int) (r7 : ByteArray) (w0 w : World) (hI : IsS24 w0 w g s1_0 s1_1 s1_2 s1_3 s1_4 s1_5) (hB : Below w0.heap.size w0 w) (hr0 : Kd.C (Kd.int .i64) w A0 l0.length l0) (hc0 : l0.length ≤ c0) (hf0 : ∀ ad, A0 = some ad → 0 < l0.length → ad.block ≠ g) (h : sI_111.f k l0 s1_0 s1_1 s1_2 s1_3 s1_4 s1_5 = some (r1, r2, r3, r4, r5, r6, r7)) :
    Calls Tryz.prog 113 #[.slice A0 l0.length c0, .func (.func 111) #[] #[.pointer (some ⟨g, 0, none⟩)]] w fun e w' => e = .returned (.int .i64 r1) ∧ IsS24 w0 w' g r2 r3 r4 r5 r6 r7 ∧ Below w0.heap.size w0 w' ∧ KeepBut w w' g none := by
 have HR0 := aM_ hr0; have HC0 := aM_ hc0; clear hr0 hc0; have HI1 := aM_ hI; have HK := aM_ (KeepBut.refl w g none); have HL := aM_ hB.size; clear hI; have HW0 := aM_ hB.size; have HB := aM_ hB; clear hB; have H : (sI_111.l0 k l0 (l0.length : Int) 0 s1_0 s1_1 s1_2 s1_3 s1_4 s1_5) = some (r1, r2, r3, r4, r5, r6, r7) := h; clear h; replace H := aM_ H; go_enter Tryz.func113, Tryz.ntmps113; go_wp2
 go_loopg [8] k (fun kq v8 w' => ∃ (x8_1 : Int) (x2000_1 : Int) (x2001_1 : Int) (x2002_1 : Int) (x2003_1 : Int) (x2004_1 : Int) (x2005_1 : ByteArray), v8 = .int .i64 x8_1 ∧ As_ (sI_111.l0 kq l0 (l0.length : Int) x8_1 x2000_1 x2001_1 x2002_1 x2003_1 x2004_1 x2005_1 = some (r1, r2, r3, r4, r5, r6, r7)) ∧ As_ (kq ≤ k) ∧ As_ (IsS24 w0 w' g x2000_1 x2001_1 x2002_1 x2003_1 x2004_1 x2005_1) ∧ As_ (KeepBut w w' g none) ∧ As_ (Below w0.heap.size w0 w'))
 case atStart => exact ⟨(0), (s1_0), (s1_1), (s1_2), (s1_3), (s1_4), (s1_5), eQ_, H, ⟨Nat.le_refl _⟩, ⟨by repeat (first | (with_reducible first | exact HI1.out | apply IsS24.alloc | apply IsS24.drewN | apply IsS24.drew | apply IsS24.set_0 | apply IsS24.set_1 | apply IsS24.set_2 | apply IsS24.set_3 | apply IsS24.set_4 | apply IsS24.set_5) | exact HI1.out)⟩, ⟨by repeat (first | (with_reducible first | exact HK.out | apply KeepBut.set_ | apply keep_drewN | apply keep_drew | apply keep_alloc) | exact HK.out)⟩, ⟨by repeat (first | (with_reducible first | exact HB.out | apply bA_ | apply bN_ | apply b1_ | refine bS_ ?_ (IsS24.ge HI1.out)) | exact HB.out)⟩⟩
 case round =>
  clear H; obtain ⟨x8_1, x2000_1, x2001_1, x2002_1, x2003_1, x2004_1, x2005_1, rfl, HA, HK1, HI1, HK, HB⟩ := hrel
  cases gk with
  | zero => exact absurd HA.out (by simp [sI_111.l0])
  | succ k1 =>
   have H := HA.out; clear HA; simp only [sI_111.l0] at H
   by_cases c3 : x8_1 < (l0.length : Int)
   ·rw [if_pos c3] at H; have c3b0 := dE_ c3; clear c3
    by_cases c4 : 0 ≤ x8_1
    ·rw [if_pos c4] at H; have c4b0 := dE_ c4; clear c4
     by_cases c5 : x8_1 < (l0.length : Int)
     ·rw [if_pos c5] at H; have c5b0 := dE_ c5; clear c5; replace H := oB_ H; obtain ⟨⟨t250, t251, t252, t253, t254, t255, t256⟩, A6, H⟩ := H; replace H : (if t250 = true then (some (x8_1, t251, t252, t253, t254, t255, t256)) else (sI_111.l0 k1 l0 (l0.length : Int) (wrap64 (x8_1 + 1)) t251 t252 t253 t254 t255 t256)) = some (r1, r2, r3, r4, r5, r6, r7) := H
      by_cases c7 : t250 = true
      ·subst c7; have H1 : (some (x8_1, t251, t252, t253, t254, t255, t256)) = some (r1, r2, r3, r4, r5, r6, r7) := by rw [if_pos rfl] at H; exact H
       clear H; have H := H1; clear H1; simp only [Option.some.injEq, Prod.mk.injEq] at H; obtain ⟨rfl, rfl, rfl, rfl, rfl, rfl, rfl⟩ := H; have p249 : 0 ≤ (x8_1 : Int) := oD_; have q249 : x8_1 < (l0.length : Int) := oD_; obtain ⟨ad249, e249, hx249_0⟩ := Kd.at_int HR0.out x8_1 p249 q249
       cases e249
       replace hx249_0 := keep_cell HK.out hx249_0 (by first | (rw [add_block]; exact hf0 _ rfl (by omega)) | exact hf0 _ rfl (by omega) | exact hf0 ad249 rfl (by omega)); replace p249 := eq_true p249; replace q249 := eq_true q249
       go_wp2_with (first | (go_at_call 111; (with_reducible refine (dag_reads_1.calls k1 (rd l0 x8_1) g x2000_1 x2001_1 x2002_1 x2003_1 x2004_1 x2005_1 true t251 t252 t253 t254 t255 t256 w0 _ ?side1 ?side2 A6.out).mono ?_); (case side1 => repeat (first | (with_reducible first | exact HI1.out | apply IsS24.alloc | apply IsS24.drewN | apply IsS24.drew | apply IsS24.set_0 | apply IsS24.set_1 | apply IsS24.set_2 | apply IsS24.set_3 | apply IsS24.set_4 | apply IsS24.set_5) | exact HI1.out)); (case side2 => repeat (first | (with_reducible first | exact HB.out | apply bA_ | apply bN_ | apply b1_ | refine bS_ ?_ (IsS24.ge HI1.out)) | exact HB.out)); rintro e w8 ⟨rfl, hi, hb, hk⟩; replace HK := aM_ (KeepBut.trans (by repeat (first | (with_reducible first | exact HK.out | apply KeepBut.set_ | apply keep_drewN | apply keep_drew | apply keep_alloc) | exact HK.out)) hk (.inl rfl)); replace HB := aM_ (hb); replace HI1 := aM_ (hi)))
       go_ret; exact ⟨eR_, by repeat (first | (with_reducible first | exact HI1.out | apply IsS24.alloc | apply IsS24.drewN | apply IsS24.drew | apply IsS24.set_0 | apply IsS24.set_1 | apply IsS24.set_2 | apply IsS24.set_3 | apply IsS24.set_4 | apply IsS24.set_5) | exact HI1.out), by repeat (first | (with_reducible first | exact HB.out | apply bA_ | apply bN_ | apply b1_ | refine bS_ ?_ (IsS24.ge HI1.out)) | exact HB.out), by repeat (first | (with_reducible first | exact HK.out | apply KeepBut.set_ | apply keep_drewN | apply keep_drew | apply keep_alloc) | exact HK.out)⟩
      replace c7 := eF_ c7; subst c7; have H1 : (sI_111.l0 k1 l0 (l0.length : Int) (wrap64 (x8_1 + 1)) t251 t252 t253 t254 t255 t256) = some (r1, r2, r3, r4, r5, r6, r7) := by rw [if_neg (show ¬ (false = true) by decide)] at H; exact H
      clear H; have H := H1; clear H1; replace H := aM_ H; have p249 : 0 ≤ (x8_1 : Int) := oD_; have q249 : x8_1 < (l0.length : Int) := oD_; obtain ⟨ad249, e249, hx249_0⟩ := Kd.at_int HR0.out x8_1 p249 q249
      cases e249
      replace hx249_0 := keep_cell HK.out hx249_0 (by first | (rw [add_block]; exact hf0 _ rfl (by omega)) | exact hf0 _ rfl (by omega) | exact hf0 ad249 rfl (by omega)); replace p249 := eq_true p249; replace q249 := eq_true q249
      go_wp2_with (first | (go_at_call 111; (with_reducible refine (dag_reads_1.calls k1 (rd l0 x8_1) g x2000_1 x2001_1 x2002_1 x2003_1 x2004_1 x2005_1 false t251 t252 t253 t254 t255 t256 w0 _ ?side1 ?side2 A6.out).mono ?_); (case side1 => repeat (first | (with_reducible first | exact HI1.out | apply IsS24.alloc | apply IsS24.drewN | apply IsS24.drew | apply IsS24.set_0 | apply IsS24.set_1 | apply IsS24.set_2 | apply IsS24.set_3 | apply IsS24.set_4 | apply IsS24.set_5) | exact HI1.out)); (case side2 => repeat (first | (with_reducible first | exact HB.out | apply bA_ | apply bN_ | apply b1_ | refine bS_ ?_ (IsS24.ge HI1.out)) | exact HB.out)); rintro e w9 ⟨rfl, hi, hb, hk⟩; replace HK := aM_ (KeepBut.trans (by repeat (first | (with_reducible first | exact HK.out | apply KeepBut.set_ | apply keep_drewN | apply keep_drew | apply keep_alloc) | exact HK.out)) hk (.inl rfl)); replace HB := aM_ (hb); replace HI1 := aM_ (hi)))
      go_roundg k1
      case measure => have := HK1.out; omega
      case rel => exact ⟨(wrap64 (x8_1 + 1)), (t251), (t252), (t253), (t254), (t255), (t256), eQ_, H, ⟨by have := HK1.out; omega⟩, ⟨by repeat (first | (with_reducible first | exact HI1.out | apply IsS24.alloc | apply IsS24.drewN | apply IsS24.drew | apply IsS24.set_0 | apply IsS24.set_1 | apply IsS24.set_2 | apply IsS24.set_3 | apply IsS24.set_4 | apply IsS24.set_5) | exact HI1.out)⟩, ⟨by repeat (first | (with_reducible first | exact HK.out | apply KeepBut.set_ | apply keep_drewN | apply keep_drew | apply keep_alloc) | exact HK.out)⟩, ⟨by repeat (first | (with_reducible first | exact HB.out | apply bA_ | apply bN_ | apply b1_ | refine bS_ ?_ (IsS24.ge HI1.out)) | exact HB.out)⟩⟩
     rw [if_neg c5] at H; exact absurd H (by simp)
    rw [if_neg c4] at H; exact absurd H (by simp)
   rw [if_neg c3] at H; have c3b0 := dF_ c3; clear c3; simp only [Option.some.injEq, Prod.mk.injEq] at H; obtain ⟨rfl, rfl, rfl, rfl, rfl, rfl, rfl⟩ := H; go_wp2; go_ret; exact ⟨eR_, by repeat (first | (with_reducible first | exact HI1.out | apply IsS24.alloc | apply IsS24.drewN | apply IsS24.drew | apply IsS24.set_0 | apply IsS24.set_1 | apply IsS24.set_2 | apply IsS24.set_3 | apply IsS24.set_4 | apply IsS24.set_5) | exact HI1.out), by repeat (first | (with_reducible first | exact HB.out | apply bA_ | apply bN_ | apply b1_ | refine bS_ ?_ (IsS24.ge HI1.out)) | exact HB.out), by repeat (first | (with_reducible first | exact HK.out | apply KeepBut.set_ | apply keep_drewN | apply keep_drew | apply keep_alloc) | exact HK.out)⟩
def sC_111.f (k : Nat) (l0 : List Int) (s1_0 : Int) (s1_1 : Int) (s1_2 : Int) (s1_3 : Int) (s1_4 : Int) (s1_5 : ByteArray) : Option (Bool × Int × Int × Int × Int × Int × ByteArray) := (sI_111.f k l0 s1_0 s1_1 s1_2 s1_3 s1_4 s1_5).bind fun bt257 => (some (decide (bt257.1 ≥ 0), bt257.2.1, bt257.2.2.1, bt257.2.2.2.1, bt257.2.2.2.2.1, bt257.2.2.2.2.2.1, bt257.2.2.2.2.2.2))
theorem sC_111.calls (k : Nat) (A0 : Option Addr) (c0 : Nat) (l0 : List Int) (g : Nat) (s1_0 : Int) (s1_1 : Int) (s1_2 : Int) (s1_3 : Int) (s1_4 : Int) (s1_5 : ByteArray) (r1 : Bool) (r2 : Int) (r3 : Int) (r4 : Int) (r5 : Int) (r6 : Int) (r7 : ByteArray) (w0 w : World) (hI : IsS24 w0 w g s1_0 s1_1 s1_2 s1_3 s1_4 s1_5) (hB : Below w0.heap.size w0 w) (hr0 : Kd.C (Kd.int .i64) w A0 l0.length l0) (hc0 : l0.length ≤ c0) (hf0 : ∀ ad, A0 = some ad → 0 < l0.length → ad.block ≠ g) (h : sC_111.f k l0 s1_0 s1_1 s1_2 s1_3 s1_4 s1_5 = some (r1, r2, r3, r4, r5, r6, r7)) :
    Calls Tryz.prog 109 #[.slice A0 l0.length c0, .func (.func 111) #[] #[.pointer (some ⟨g, 0, none⟩)]] w fun e w' => e = .returned (.bool r1) ∧ IsS24 w0 w' g r2 r3 r4 r5 r6 r7 ∧ Below w0.heap.size w0 w' ∧ KeepBut w w' g none := by
 have HR0 := aM_ hr0; have HC0 := aM_ hc0; clear hr0 hc0; have HI1 := aM_ hI; have HK := aM_ (KeepBut.refl w g none); have HL := aM_ hB.size; clear hI; have HW0 := aM_ hB.size; have HB := aM_ hB; clear hB; have H : ((sI_111.f k l0 s1_0 s1_1 s1_2 s1_3 s1_4 s1_5).bind fun bt257 => (some (decide (bt257.1 ≥ 0), bt257.2.1, bt257.2.2.1, bt257.2.2.2.1, bt257.2.2.2.2.1, bt257.2.2.2.2.2.1, bt257.2.2.2.2.2.2))) = some (r1, r2, r3, r4, r5, r6, r7) := h; clear h; replace H := oB_ H; obtain ⟨⟨t257, t258, t259, t260, t261, t262, t263⟩, A3, H⟩ := H; replace H : (some (decide (t257 ≥ 0), t258, t259, t260, t261, t262, t263)) = some (r1, r2, r3, r4, r5, r6, r7) := H; simp only [Option.some.injEq, Prod.mk.injEq] at H; obtain ⟨rfl, rfl, rfl, rfl, rfl, rfl, rfl⟩ := H; go_enter Tryz.func109, Tryz.ntmps109
 go_wp2_with (first | ((with_reducible refine gC_ (f := 113) rfl ?_); refine gL_ (some 7) Tryz.func113 #[.slice A0 l0.length c0, .func (.func 111) #[] #[.pointer (some ⟨g, 0, none⟩)]] rfl ?_; (with_reducible refine (sI_111.calls k _ _ l0 g s1_0 s1_1 s1_2 s1_3 s1_4 s1_5 t257 t258 t259 t260 t261 t262 t263 w0 _ ?side1 ?side2 ?side3 ?side4 ?side5 A3.out).mono ?_); (case side1 => repeat (first | (with_reducible first | exact HI1.out | apply IsS24.alloc | apply IsS24.drewN | apply IsS24.drew | apply IsS24.set_0 | apply IsS24.set_1 | apply IsS24.set_2 | apply IsS24.set_3 | apply IsS24.set_4 | apply IsS24.set_5) | exact HI1.out)); (case side2 => repeat (first | (with_reducible first | exact HB.out | apply bA_ | apply bN_ | apply b1_ | refine bS_ ?_ (IsS24.ge HI1.out)) | exact HB.out)); (case side3 => exact Kd.C_keep 0 HR0.out (by repeat (first | (with_reducible first | exact HK.out | apply KeepBut.set_ | apply keep_drewN | apply keep_drew | apply keep_alloc) | exact HK.out)) hf0); (case side4 => exact HC0.out); (case side5 => exact hf0); rintro e w4 ⟨rfl, hi, hb, hk⟩; refine ⟨_, rfl, ?_⟩; replace HK := aM_ (KeepBut.trans (by repeat (first | (with_reducible first | exact HK.out | apply KeepBut.set_ | apply keep_drewN | apply keep_drew | apply keep_alloc) | exact HK.out)) hk (.inl rfl)); replace HB := aM_ (hb); replace HI1 := aM_ (hi)))
 go_ret; exact ⟨eR_, by repeat (first | (with_reducible first | exact HI1.out | apply IsS24.alloc | apply IsS24.drewN | apply IsS24.drew | apply IsS24.set_0 | apply IsS24.set_1 | apply IsS24.set_2 | apply IsS24.set_3 | apply IsS24.set_4 | apply IsS24.set_5) | exact HI1.out), by repeat (first | (with_reducible first | exact HB.out | apply bA_ | apply bN_ | apply b1_ | refine bS_ ?_ (IsS24.ge HI1.out)) | exact HB.out), by repeat (first | (with_reducible first | exact HK.out | apply KeepBut.set_ | apply keep_drewN | apply keep_drew | apply keep_alloc) | exact HK.out)⟩
def isa_Read.j0 : Nat → List Int → Int → Int → Int → Int → Int → Int → ByteArray → Option (List Int)
  | 0, _, _, _, _, _, _, _, _ => none
  | k + 1, x2, x3, x265a, x265b, x265c, x265d, x265e, x265f => (isa_HasB.f x3).bind fun t270 => (if t270 = true then (if x2.length < 17592186044416 then (some (x2 ++ [x265d])) else (none)) else (some x2))
def isa_Read.f (k : Nat) (a0_0 : Int) (a0_1 : Int) (a0_2 : Int) (a0_3 : Int) (a0_4 : Int) (a0_5 : ByteArray) : Option (List Int) := (isa_Shape.f k a0_0).bind fun t265 => ((isa_HasA.f k t265).bind fun t266 => (if t266 = true then (if ([] : List Int).length < 17592186044416 then (isa_Read.j0 k (([] : List Int) ++ [a0_2]) t265 a0_0 a0_1 a0_2 a0_3 a0_4 a0_5) else (none)) else (isa_Read.j0 k ([] : List Int) t265 a0_0 a0_1 a0_2 a0_3 a0_4 a0_5)))
theorem isa_Read.calls (k : Nat) (a0_0 : Int) (a0_1 : Int) (a0_2 : Int) (a0_3 : Int) (a0_4 : Int) (a0_5 : ByteArray) (r : List Int) (w : World) (h : isa_Read.f k a0_0 a0_1 a0_2 a0_3 a0_4 a0_5 = some r) :
    Calls Tryz.prog 110 #[.agg #[.int .i64 a0_0, .int .i64 a0_1, .int .i64 a0_2, .int .i64 a0_3, .int .i64 a0_4, .string a0_5]] w fun e w' => ∃ v0_ : Value, e = .returned (v0_) ∧ Kd.R (Kd.int .i64) 3 w' w.heap.size (fun _ => True) v0_ r ∧ Below w.heap.size w w' := by
 have hu24 := Tryz.underlying24; have HB := aM_ (Below.refl w.heap.size w); have H : ((isa_Shape.f k a0_0).bind fun t265 => ((isa_HasA.f k t265).bind fun t266 => (if t266 = true then (if ([] : List Int).length < 17592186044416 then (isa_Read.j0 k (([] : List Int) ++ [a0_2]) t265 a0_0 a0_1 a0_2 a0_3 a0_4 a0_5) else (none)) else (isa_Read.j0 k ([] : List Int) t265 a0_0 a0_1 a0_2 a0_3 a0_4 a0_5)))) = some r := h; clear h; obtain ⟨t265, A2, H⟩ := oB_ H; obtain ⟨t266, A3, H⟩ := oB_ H; have HC4 := aM_ H; clear H; go_enter Tryz.func110, Tryz.ntmps110
 go_upto_if 8 with (first | ((with_reducible refine gate_dst (N := 1) rfl ?_); refine bX_ (N := 1) (cs := #[.int .i64 a0_0, .int .i64 a0_1, .int .i64 a0_2, .int .i64 a0_3, .int .i64 a0_4, .string a0_5]) (t := 24) ?_; intro gb264 hg w5 hbox hb; replace BK264 := aM_ (hbox); replace GW264 := aM_ (gE_ hg (bl_ HB)); replace GE264 := aM_ (gE_ hg (bl_ HB)); replace HB := aM_ (bT_ (bl_ HB) hb); clear hb hbox hg; obtain ⟨hcz6_0, hcz6_1, hcz6_2, hcz6_3, hcz6_4, hcz6_5⟩ := cl6_ BK264.out; obtain ⟨hfz6_0, hfz6_1, hfz6_2, hfz6_3, hfz6_4, hfz6_5⟩ := fz6_ BK264.out) | ((with_reducible refine gC_ (f := 89) rfl ?_); refine gL_ (some 6) Tryz.func89 #[.int .i64 a0_0] rfl ?_; (with_reducible refine (isa_Shape.calls k a0_0 t265 _ A2.out).mono ?_); rintro e w' ⟨rfl, ⟨nd, rfl⟩⟩; refine ⟨_, rfl, ?_⟩) | ((with_reducible refine gC_ (f := 92) rfl ?_); refine gL_ (some 8) Tryz.func92 #[.int .i64 t265] rfl ?_; (with_reducible refine (isa_HasA.calls k t265 t266 _ A3.out).mono ?_); rintro e w' ⟨rfl, ⟨nd, rfl⟩⟩; refine ⟨_, rfl, ?_⟩))
 (try simp only [Act.put, List.setIfInBounds_toArray, List.set_cons_zero, List.set_cons_succ])
 go_cut [2] (fun v2 wc => ∃ (kq : Nat) (x2_3 : List Int), As_ (isa_Read.j0 kq x2_3 t265 a0_0 a0_1 a0_2 a0_3 a0_4 a0_5 = some r) ∧ As_ (kq ≤ k) ∧ As_ (Kd.R (Kd.int .i64) 3 wc w.heap.size (fun _ => True) v2 x2_3) ∧ As_ (wc.heap[gb264]? = some (.cells #[.int .i64 a0_0, .int .i64 a0_1, .int .i64 a0_2, .int .i64 a0_3, .int .i64 a0_4, .string a0_5] 24 (0, 0))) ∧ As_ (Below w.heap.size w wc))
 case first =>
  have H := HC4.out; clear HC4
  by_cases c7 : t266 = true
  ·subst c7; rw [if_pos rfl] at H
   by_cases c8 : ([] : List Int).length < 17592186044416
   ·rw [if_pos c8] at H; have LMc8 := aM_ c8; clear c8; obtain ⟨y267, hy267⟩ : ∃ y_ : List Int, y_ = (([] : List Int) ++ [a0_2]) := ⟨_, rfl⟩
    replace H : (isa_Read.j0 k y267 t265 a0_0 a0_1 a0_2 a0_3 a0_4 a0_5) = some r := by first | (rw [hy267]; with_reducible exact H) | (have H2_ := (Option.bind_some _ _).symm.trans H; rw [hy267]; with_reducible exact H2_) | (have H2_ := (Option.bind_some _ _).symm.trans H; with_reducible exact H2_) | with_reducible exact H | (rw [hy267]; exact H) | exact H
    have Ny267 := aM_ hy267; clear hy267; replace H := aM_ H; obtain ⟨hcz9_0, hcz9_1, hcz9_2, hcz9_3, hcz9_4, hcz9_5⟩ := cl6_ BK264.out; obtain ⟨hfz9_0, hfz9_1, hfz9_2, hfz9_3, hfz9_4, hfz9_5⟩ := fz6_ BK264.out
    go_wp2_with (first | ((with_reducible refine gate_builtin (b := .append) (xs := #[.tmp 9, .tmp 12]) rfl ?_); at_builtin; refine Kd.R_append (Kd.int .i64) (w0 := w) w.heap.size rfl (.tmp 9) (.tmp 12) 25 3 (.int .i64 0) 8 rfl Tryz.underlying25 info3 rfl (by decide) (by omega) (.slice none 0 0) ([] : List Int) a0_2 [.int .i64 a0_2] (fun _ => True) (fun _ => False) rfl rfl ?aP (fun _ hk => hk.elim) ?aF ?aO ?aB ?aS ?aL ?_; (case aP => exact rfl); (case aB => exact (bs_ HB GE264)); (case aF => exact (fun _ _ => trivial)); (case aO => exact ((Kd.R_nil _ _ _ _ (fun _ => True)))); (case aS => exact (bY_ (bs_ HB GE264))); (case aL => have := LMc8.out; omega); intro v268 w10 ho hb hg hat; rw [← Ny267.out] at ho; replace BK264 := aM_ (blk_grown (g := gb264) (o := .cells #[.int .i64 a0_0, .int .i64 a0_1, .int .i64 a0_2, .int .i64 a0_3, .int .i64 a0_4, .string a0_5] 24 (0, 0)) (rB_ BK264) hg (by simp [Value.ownBlock])); replace HB := aM_ (hb); replace HO269 := aM_ (ho); clear ho hb hg hat))
    go_meet
    case rel => exact ⟨_, (y267), H, ⟨by first | omega | exact Nat.le_refl _⟩, ⟨rR_ HO269⟩, ⟨rB_ BK264⟩, ⟨bs_ HB GE264⟩⟩
   rw [if_neg c8] at H; exact absurd H (by simp)
  replace c7 := eF_ c7; subst c7; rw [if_neg Bool.false_ne_true] at H; replace H := aM_ H; go_wp2
  go_meet
  case rel => exact ⟨_, (([] : List Int)), H, ⟨by first | omega | exact Nat.le_refl _⟩, ⟨by first | exact Kd.R_nil _ _ _ _ _ | exact Kd.N_nil _ _ _ _ _ | exact Kd.V_nil _ _ _ _ _ | exact Kd.Q_nil _ _ _ _ _ | exact Kd.S_nil _ _ _ _ _⟩, ⟨rB_ BK264⟩, ⟨bs_ HB GE264⟩⟩
 case rest =>
  clear HC4; obtain ⟨kq, x2_3, HA, HJ3, HO_2, BK264, HB⟩ := hcut
  cases kq with
  | zero => exact absurd HA.out (by simp [isa_Read.j0])
  | succ kj3 =>
   have H := HA.out; clear HA; simp only [isa_Read.j0] at H; obtain ⟨t270, A11, H⟩ := oB_ H
   by_cases c12 : t270 = true
   ·subst c12; rw [if_pos rfl] at H
    by_cases c13 : x2_3.length < 17592186044416
    ·rw [if_pos c13] at H; have LMc13 := aM_ c13; clear c13; obtain ⟨y271, hy271⟩ : ∃ y_ : List Int, y_ = (x2_3 ++ [a0_3]) := ⟨_, rfl⟩
     replace H : (some y271) = some r := by first | (rw [hy271]; with_reducible exact H) | (have H2_ := (Option.bind_some _ _).symm.trans H; rw [hy271]; with_reducible exact H2_) | (have H2_ := (Option.bind_some _ _).symm.trans H; with_reducible exact H2_) | with_reducible exact H | (rw [hy271]; exact H) | exact H
     have Ny271 := aM_ hy271; clear hy271; obtain rfl := oI_ H
     go_wp2_with (first | ((with_reducible refine gC_ (f := 93) rfl ?_); refine gL_ (some 15) Tryz.func93 #[.int .i64 t265] rfl ?_; (with_reducible refine (isa_HasB.calls t265 true _ A11.out).mono ?_); rintro e w' ⟨rfl, ⟨nd, rfl⟩⟩; refine ⟨_, rfl, ?_⟩; obtain ⟨hcz14_0, hcz14_1, hcz14_2, hcz14_3, hcz14_4, hcz14_5⟩ := cl6_ BK264.out; obtain ⟨hfz14_0, hfz14_1, hfz14_2, hfz14_3, hfz14_4, hfz14_5⟩ := fz6_ BK264.out) | ((with_reducible refine gate_builtin (b := .append) (xs := #[.tmp 16, .tmp 19]) rfl ?_); at_builtin; refine Kd.R_append (Kd.int .i64) (w0 := w) w.heap.size rfl (.tmp 16) (.tmp 19) 25 3 (.int .i64 0) 8 rfl Tryz.underlying25 info3 rfl (by decide) (by omega) u2 x2_3 a0_3 [.int .i64 a0_3] (fun _ => True) (fun _ => False) rfl rfl ?aP (fun _ hk => hk.elim) ?aF ?aO ?aB ?aS ?aL ?_; (case aP => exact rfl); (case aB => exact (bs_ HB GE264)); (case aF => exact (fun _ _ => trivial)); (case aO => exact (rR_ HO_2)); (case aS => exact (bY_ (bs_ HB GE264))); (case aL => have := LMc13.out; omega); intro v272 w15 ho hb hg hat; rw [← Ny271.out] at ho; replace BK264 := aM_ (blk_grown (g := gb264) (o := .cells #[.int .i64 a0_0, .int .i64 a0_1, .int .i64 a0_2, .int .i64 a0_3, .int .i64 a0_4, .string a0_5] 24 (0, 0)) (rB_ BK264) hg (Kd.R_ne HO_2.out BK264.out (by decide))); replace HB := aM_ (hb); replace HO273 := aM_ (ho); clear HO_2; clear ho hb hg hat))
     go_ret; exact ⟨_, eR_, rR_ HO273, bs_ HB GE264⟩
    rw [if_neg c13] at H; exact absurd H (by simp)
   replace c12 := eF_ c12; subst c12; rw [if_neg Bool.false_ne_true] at H; obtain rfl := oI_ H
   go_wp2_with (first | ((with_reducible refine gC_ (f := 93) rfl ?_); refine gL_ (some 15) Tryz.func93 #[.int .i64 t265] rfl ?_; (with_reducible refine (isa_HasB.calls t265 false _ A11.out).mono ?_); rintro e w' ⟨rfl, ⟨nd, rfl⟩⟩; refine ⟨_, rfl, ?_⟩))
   go_ret; exact ⟨_, eR_, rR_ HO_2, bs_ HB GE264⟩
end
section
def dag_reads.f (k : Nat) (a0_0 a0_1 a0_2 a0_3 a0_4 : Int) (a0_5 : ByteArray) (a1_0 a1_1 a1_2 a1_3 a1_4 : Int) (a1_5 : ByteArray) : Option Bool :=
  (isa_Read.f k a0_0 a0_1 a0_2 a0_3 a0_4 a0_5).bind fun l => (sC_111.f k l a1_0 a1_1 a1_2 a1_3 a1_4 a1_5).bind fun t => some t.1
theorem dag_reads.calls (k : Nat) (a0_0 : Int) (a0_1 : Int) (a0_2 : Int) (a0_3 : Int) (a0_4 : Int) (a0_5 : ByteArray) (a1_0 : Int) (a1_1 : Int) (a1_2 : Int) (a1_3 : Int) (a1_4 : Int) (a1_5 : ByteArray) (r : Bool) (w : World) (h : dag_reads.f k a0_0 a0_1 a0_2 a0_3 a0_4 a0_5 a1_0 a1_1 a1_2 a1_3 a1_4 a1_5 = some r) :
    Calls Tryz.prog 101 #[.agg #[.int .i64 a0_0, .int .i64 a0_1, .int .i64 a0_2, .int .i64 a0_3, .int .i64 a0_4, .string a0_5], .agg #[.int .i64 a1_0, .int .i64 a1_1, .int .i64 a1_2, .int .i64 a1_3, .int .i64 a1_4, .string a1_5]] w fun e w' => e = .returned (.bool r) ∧ Below w.heap.size w w' := by
  have hu24 := Tryz.underlying24; unfold dag_reads.f at h; obtain ⟨rs, h1, h⟩ := Option.bind_eq_some_iff.mp h; obtain ⟨⟨t1, t2, t3, t4, t5, t6, t7⟩, h2, h⟩ := Option.bind_eq_some_iff.mp h; obtain rfl := Option.some.inj h; have H1 := aM_ h1; have H2 := aM_ h2; clear h h1 h2; have HB := aM_ (Below.refl w.heap.size w); go_enter Tryz.func101, Tryz.ntmps101
  go_wp2_with (first | ((with_reducible refine gate_dst (N := 2) rfl ?_); refine bX_ (N := 2) (cs := #[.int .i64 a0_0, .int .i64 a0_1, .int .i64 a0_2, .int .i64 a0_3, .int .i64 a0_4, .string a0_5]) (t := 24) ?_; intro g2 hg w2 hbox hb; have hc0 := (bC_ hbox 0).trans rfl; have BX2 := aM_ hbox; have HG2 := aM_ hg; have HB2 := aM_ hb; clear hbox hg hb)  | ((with_reducible refine gate_dst (N := 3) rfl ?_); refine bX_ (N := 3) (cs := #[.int .i64 a1_0, .int .i64 a1_1, .int .i64 a1_2, .int .i64 a1_3, .int .i64 a1_4, .string a1_5]) (t := 24) ?_; intro g3 hg w3 hbox hb; have q0 := (bC_ (kB_ BX2.out hb) 0).trans rfl; have q1 := (bC_ (kB_ BX2.out hb) 1).trans rfl; have q2 := (bC_ (kB_ BX2.out hb) 2).trans rfl; have q3 := (bC_ (kB_ BX2.out hb) 3).trans rfl; have q4 := (bC_ (kB_ BX2.out hb) 4).trans rfl; have q5 := (bC_ (kB_ BX2.out hb) 5).trans rfl; have BX3 := aM_ hbox; have HG3 := aM_ hg; have HB3 := aM_ hb; clear hbox hg hb)  | (go_at_call 110; (with_reducible refine (isa_Read.calls k a0_0 a0_1 a0_2 a0_3 a0_4 a0_5 rs _ H1.out).mono ?_); rintro e w4 ⟨v4, rfl, ho, hb⟩; obtain ⟨Ao, co, eo⟩ := Kd.R_slice ho; subst eo; have HO := aM_ ho; have HB4 := aM_ hb; clear ho hb)  | (go_at_call 109; (refine (sC_111.calls k Ao co rs g3 a1_0 a1_1 a1_2 a1_3 a1_4 a1_5 t1 t2 t3 t4 t5 t6 t7 w _ ⟨kB_ BX3.out HB4.out, ?_⟩ ?_ (Kd.R_reads' HO.out).2.2 (Kd.R_reads' HO.out).2.1 ?_ H2.out).mono ?_)))
  case refine_1 => have := HG3.out; have := HB2.out.size; omega
  case refine_2 => exact HB2.out.trans ((HB3.out.mono HB2.out.size).trans (HB4.out.mono (Nat.le_trans HB2.out.size HB3.out.size)))
  case refine_3 =>
    intro ad e1 h0; subst e1; obtain ⟨g, cap, e2, hb, _⟩ := Kd.R_form HO.out h0; have e3 : some ad = some ⟨g, 0, none⟩ := (by injection e2)
    obtain rfl := Option.some.inj e3; have := blk_lt BX3.out; show g ≠ g3; omega
  case refine_4 =>
    rintro e w' ⟨rfl, hi, hb, hk⟩; go_wp2; go_ret; exact ⟨rfl, hb⟩
end
section
attribute [local go_sem] max2_int min2_int max_two min_two max_three min_three max_four min_four
mutual
def dag_dist.j0 : Nat → Int → Int → Int → Int → Int → Int → ByteArray → Int → Int → Int → Int → Int → ByteArray → Option (Int)
  | 0, _, _, _, _, _, _, _, _, _, _, _, _, _ => none
  | k + 1, x5, x275a, x275b, x275c, x275d, x275e, x275f, x276a, x276b, x276c, x276d, x276e, x276f => (isa_Effect.f k x275a).bind fun t277 => (if t277 = true then ((isa_Effect.f k x276a).bind fun t278 => (dag_dist.j1 k x5 t278 x275a x275b x275c x275d x275e x275f x276a x276b x276c x276d x276e x276f)) else (dag_dist.j1 k x5 false x275a x275b x275c x275d x275e x275f x276a x276b x276c x276d x276e x276f))
def dag_dist.j1 : Nat → Int → Bool → Int → Int → Int → Int → Int → ByteArray → Int → Int → Int → Int → Int → ByteArray → Option (Int)
  | 0, _, _, _, _, _, _, _, _, _, _, _, _, _, _ => none
  | k + 1, x5, x16, x275a, x275b, x275c, x275d, x275e, x275f, x276a, x276b, x276c, x276d, x276e, x276f => if x16 = true then (dag_dist.j2 k 1 x275a x275b x275c x275d x275e x275f x276a x276b x276c x276d x276e x276f) else (dag_dist.j2 k x5 x275a x275b x275c x275d x275e x275f x276a x276b x276c x276d x276e x276f)
def dag_dist.j2 : Nat → Int → Int → Int → Int → Int → Int → ByteArray → Int → Int → Int → Int → Int → ByteArray → Option (Int)
  | 0, _, _, _, _, _, _, _, _, _, _, _, _, _ => none
  | k + 1, x5, x275a, x275b, x275c, x275d, x275e, x275f, x276a, x276b, x276c, x276d, x276e, x276f => (dag_reads.f k x276a x276b x276c x276d x276e x276f x275a x275b x275c x275d x275e x275f).bind fun t279 => (if t279 = true then (dag_dist.j3 k x5 true x275a x275b x275c x275d x275e x275f) else ((isa_Shape.f k x276a).bind fun t280 => ((isa_HasD.f t280).bind fun t281 => (if t281 = true then ((dag_writes.f k x275a x275b x275c x275d x275e x275f x276b).bind fun t282 => (dag_dist.j3 k x5 t282 x275a x275b x275c x275d x275e x275f)) else (dag_dist.j3 k x5 false x275a x275b x275c x275d x275e x275f)))))
def dag_dist.j3 : Nat → Int → Bool → Int → Int → Int → Int → Int → ByteArray → Option (Int)
  | 0, _, _, _, _, _, _, _, _ => none
  | k + 1, x5, x31, x275a, x275b, x275c, x275d, x275e, x275f => if x31 = true then ((isa_Late.f k x275a).bind fun t283 => (some (mx x5 t283))) else (some x5)
end
def dag_dist.f (k : Nat) (a0_0 : Int) (a0_1 : Int) (a0_2 : Int) (a0_3 : Int) (a0_4 : Int) (a0_5 : ByteArray) (a1_0 : Int) (a1_1 : Int) (a1_2 : Int) (a1_3 : Int) (a1_4 : Int) (a1_5 : ByteArray) : Option (Int) := (dag_reads.f k a0_0 a0_1 a0_2 a0_3 a0_4 a0_5 a1_0 a1_1 a1_2 a1_3 a1_4 a1_5).bind fun t276 => (if t276 = true then (dag_dist.j0 k 0 a0_0 a0_1 a0_2 a0_3 a0_4 a0_5 a1_0 a1_1 a1_2 a1_3 a1_4 a1_5) else (dag_dist.j0 k (-1) a0_0 a0_1 a0_2 a0_3 a0_4 a0_5 a1_0 a1_1 a1_2 a1_3 a1_4 a1_5))
theorem dag_dist.calls (k : Nat) (a0_0 : Int) (a0_1 : Int) (a0_2 : Int) (a0_3 : Int) (a0_4 : Int) (a0_5 : ByteArray) (a1_0 : Int) (a1_1 : Int) (a1_2 : Int) (a1_3 : Int) (a1_4 : Int) (a1_5 : ByteArray) (r : Int) (w : World) (h : dag_dist.f k a0_0 a0_1 a0_2 a0_3 a0_4 a0_5 a1_0 a1_1 a1_2 a1_3 a1_4 a1_5 = some r) :
    Calls Tryz.prog 84 #[.agg #[.int .i64 a0_0, .int .i64 a0_1, .int .i64 a0_2, .int .i64 a0_3, .int .i64 a0_4, .string a0_5], .agg #[.int .i64 a1_0, .int .i64 a1_1, .int .i64 a1_2, .int .i64 a1_3, .int .i64 a1_4, .string a1_5]] w fun e w' => e = .returned (.int .i64 r) ∧ Below w.heap.size w w' := by
 have hu24 := Tryz.underlying24; have HB := aM_ (Below.refl w.heap.size w); have H : ((dag_reads.f k a0_0 a0_1 a0_2 a0_3 a0_4 a0_5 a1_0 a1_1 a1_2 a1_3 a1_4 a1_5).bind fun t276 => (if t276 = true then (dag_dist.j0 k 0 a0_0 a0_1 a0_2 a0_3 a0_4 a0_5 a1_0 a1_1 a1_2 a1_3 a1_4 a1_5) else (dag_dist.j0 k (-1) a0_0 a0_1 a0_2 a0_3 a0_4 a0_5 a1_0 a1_1 a1_2 a1_3 a1_4 a1_5))) = some r := h; clear h; obtain ⟨t276, A3, H⟩ := oB_ H; have HC4 := aM_ H; clear H; go_enter Tryz.func84, Tryz.ntmps84
 go_upto_if 8 with (first | ((with_reducible refine gate_dst (N := 2) rfl ?_); refine bX_ (N := 2) (cs := #[.int .i64 a0_0, .int .i64 a0_1, .int .i64 a0_2, .int .i64 a0_3, .int .i64 a0_4, .string a0_5]) (t := 24) ?_; intro gb274 hg w5 hbox hb; replace BK274 := aM_ (hbox); replace GW274 := aM_ (gE_ hg (bl_ HB)); replace GE274 := aM_ (gE_ hg (bl_ HB)); replace HB := aM_ (bT_ (bl_ HB) hb); clear hb hbox hg) | ((with_reducible refine gate_dst (N := 3) rfl ?_); refine bX_ (N := 3) (cs := #[.int .i64 a1_0, .int .i64 a1_1, .int .i64 a1_2, .int .i64 a1_3, .int .i64 a1_4, .string a1_5]) (t := 24) ?_; intro gb275 hg w6 hbox hb; replace BK275 := aM_ (hbox); replace GW275 := aM_ (gE_ hg (bs_ HB GE274)); replace GE275 := aM_ (gE_ hg (bs_ HB GE274)); replace HB := aM_ (bT_ (bs_ HB GE274) hb); replace NB274_275 := aM_ ((by rw [hg]; exact Nat.ne_of_lt (blk_lt (g := gb274) (o := .cells #[.int .i64 a0_0, .int .i64 a0_1, .int .i64 a0_2, .int .i64 a0_3, .int .i64 a0_4, .string a0_5] 24 (0, 0)) (rB_ BK274)) : gb274 ≠ gb275)); replace NB275_274 := aM_ ((by rw [hg]; exact Nat.ne_of_gt (blk_lt (g := gb274) (o := .cells #[.int .i64 a0_0, .int .i64 a0_1, .int .i64 a0_2, .int .i64 a0_3, .int .i64 a0_4, .string a0_5] 24 (0, 0)) (rB_ BK274)) : gb275 ≠ gb274)); replace BK274 := aM_ (kB_ (rB_ BK274) hb); clear hb hbox hg; have hnb7 := NB274_275.out; have hnc7 := NB275_274.out; obtain ⟨hcz8_0, hcz8_1, hcz8_2, hcz8_3, hcz8_4, hcz8_5⟩ := cl6_ BK274.out; obtain ⟨hfz8_0, hfz8_1, hfz8_2, hfz8_3, hfz8_4, hfz8_5⟩ := fz6_ BK274.out; obtain ⟨hcz9_0, hcz9_1, hcz9_2, hcz9_3, hcz9_4, hcz9_5⟩ := cl6_ BK275.out; obtain ⟨hfz9_0, hfz9_1, hfz9_2, hfz9_3, hfz9_4, hfz9_5⟩ := fz6_ BK275.out) | ((with_reducible refine gC_ (f := 101) rfl ?_); refine gL_ (some 8) Tryz.func101 #[.agg #[.int .i64 a0_0, .int .i64 a0_1, .int .i64 a0_2, .int .i64 a0_3, .int .i64 a0_4, .string a0_5], .agg #[.int .i64 a1_0, .int .i64 a1_1, .int .i64 a1_2, .int .i64 a1_3, .int .i64 a1_4, .string a1_5]] rfl ?_; (with_reducible refine (dag_reads.calls k a0_0 a0_1 a0_2 a0_3 a0_4 a0_5 a1_0 a1_1 a1_2 a1_3 a1_4 a1_5 t276 _ A3.out).mono ?_); rintro e w10 ⟨rfl, hb⟩; refine ⟨_, rfl, ?_⟩; replace BK274 := aM_ (kB_ (rB_ BK274) hb); replace BK275 := aM_ (kB_ (rB_ BK275) hb); replace HB := aM_ (bT_ (bt_ HB GE274 GE275) hb)))
 (try simp only [Act.put, List.setIfInBounds_toArray, List.set_cons_zero, List.set_cons_succ])
 go_cut [5] (fun v5 wc => ∃ (kq : Nat) (x5_3 : Int), v5 = .int .i64 x5_3 ∧ As_ (dag_dist.j0 kq x5_3 a0_0 a0_1 a0_2 a0_3 a0_4 a0_5 a1_0 a1_1 a1_2 a1_3 a1_4 a1_5 = some r) ∧ As_ (kq ≤ k) ∧ As_ (wc.heap[gb274]? = some (.cells #[.int .i64 a0_0, .int .i64 a0_1, .int .i64 a0_2, .int .i64 a0_3, .int .i64 a0_4, .string a0_5] 24 (0, 0))) ∧ As_ (wc.heap[gb275]? = some (.cells #[.int .i64 a1_0, .int .i64 a1_1, .int .i64 a1_2, .int .i64 a1_3, .int .i64 a1_4, .string a1_5] 24 (0, 0))) ∧ As_ (Below w.heap.size w wc))
 case first =>
  have H := HC4.out; clear HC4
  by_cases c11 : t276 = true
  ·subst c11; rw [if_pos rfl] at H; replace H := aM_ H; go_wp2
   go_meet
   case rel => exact ⟨_, (0), eQ_, H, ⟨by first | omega | exact Nat.le_refl _⟩, ⟨rB_ BK274⟩, ⟨rB_ BK275⟩, ⟨bt_ HB GE274 GE275⟩⟩
  replace c11 := eF_ c11; subst c11; rw [if_neg Bool.false_ne_true] at H; replace H := aM_ H; go_wp2
  go_meet
  case rel => exact ⟨_, ((-1)), eQ_, H, ⟨by first | omega | exact Nat.le_refl _⟩, ⟨rB_ BK274⟩, ⟨rB_ BK275⟩, ⟨bt_ HB GE274 GE275⟩⟩
 case rest =>
  clear HC4; obtain ⟨kq, x5_3, rfl, HA, HJ3, BK274, BK275, HB⟩ := hcut
  cases kq with
  | zero => exact absurd HA.out (by simp [dag_dist.j0])
  | succ kj3 =>
   have H := HA.out; clear HA; simp only [dag_dist.j0] at H; have HC12 := aM_ H; clear H
   go_upto_region 4 with (fail)
   go_cut [16] (fun v16 wc => ∃ (kq : Nat) (x16_11 : Bool), v16 = .bool x16_11 ∧ As_ (dag_dist.j1 kq x5_3 x16_11 a0_0 a0_1 a0_2 a0_3 a0_4 a0_5 a1_0 a1_1 a1_2 a1_3 a1_4 a1_5 = some r) ∧ As_ (kq ≤ kj3) ∧ As_ (wc.heap[gb274]? = some (.cells #[.int .i64 a0_0, .int .i64 a0_1, .int .i64 a0_2, .int .i64 a0_3, .int .i64 a0_4, .string a0_5] 24 (0, 0))) ∧ As_ (wc.heap[gb275]? = some (.cells #[.int .i64 a1_0, .int .i64 a1_1, .int .i64 a1_2, .int .i64 a1_3, .int .i64 a1_4, .string a1_5] 24 (0, 0))) ∧ As_ (Below w.heap.size w wc))
   case first =>
    have H := HC12.out; clear HC12; obtain ⟨t277, A13, H⟩ := oB_ H
    by_cases c14 : t277 = true
    ·subst c14; rw [if_pos rfl] at H; obtain ⟨t278, A15, H⟩ := oB_ H; replace H := aM_ H; have hnb16 := NB274_275.out; have hnc16 := NB275_274.out; obtain ⟨hcz17_0, hcz17_1, hcz17_2, hcz17_3, hcz17_4, hcz17_5⟩ := cl6_ BK274.out; obtain ⟨hfz17_0, hfz17_1, hfz17_2, hfz17_3, hfz17_4, hfz17_5⟩ := fz6_ BK274.out
     go_wp2_with (first | ((with_reducible refine gC_ (f := 98) rfl ?_); refine gL_ (some 11) Tryz.func98 #[.int .i64 a0_0] rfl ?_; (with_reducible refine (isa_Effect.calls kj3 a0_0 true _ A13.out).mono ?_); rintro e w' ⟨rfl, ⟨nd, rfl⟩⟩; refine ⟨_, rfl, ?_⟩; obtain ⟨hcz18_0, hcz18_1, hcz18_2, hcz18_3, hcz18_4, hcz18_5⟩ := cl6_ BK275.out; obtain ⟨hfz18_0, hfz18_1, hfz18_2, hfz18_3, hfz18_4, hfz18_5⟩ := fz6_ BK275.out) | (go_at_call 98; (with_reducible refine (isa_Effect.calls kj3 a1_0 t278 _ A15.out).mono ?_); rintro e w' ⟨rfl, ⟨nd, rfl⟩⟩))
     go_meet
     case rel => exact ⟨_, (t278), eQ_, H, ⟨by have := HJ3.out; first | omega | exact Nat.le_refl _⟩, ⟨rB_ BK274⟩, ⟨rB_ BK275⟩, ⟨bt_ HB GE274 GE275⟩⟩
    replace c14 := eF_ c14; subst c14; rw [if_neg Bool.false_ne_true] at H; replace H := aM_ H; have hnb19 := NB274_275.out; have hnc19 := NB275_274.out; obtain ⟨hcz20_0, hcz20_1, hcz20_2, hcz20_3, hcz20_4, hcz20_5⟩ := cl6_ BK274.out; obtain ⟨hfz20_0, hfz20_1, hfz20_2, hfz20_3, hfz20_4, hfz20_5⟩ := fz6_ BK274.out
    go_wp2_with (first | ((with_reducible refine gC_ (f := 98) rfl ?_); refine gL_ (some 11) Tryz.func98 #[.int .i64 a0_0] rfl ?_; (with_reducible refine (isa_Effect.calls kj3 a0_0 false _ A13.out).mono ?_); rintro e w' ⟨rfl, ⟨nd, rfl⟩⟩; refine ⟨_, rfl, ?_⟩))
    go_meet
    case rel => exact ⟨_, (false), eQ_, H, ⟨by have := HJ3.out; first | omega | exact Nat.le_refl _⟩, ⟨rB_ BK274⟩, ⟨rB_ BK275⟩, ⟨bt_ HB GE274 GE275⟩⟩
   case rest =>
    clear HC12; obtain ⟨kq, x16_11, rfl, HA, HJ11, BK274, BK275, HB⟩ := hcut
    cases kq with
    | zero => exact absurd HA.out (by simp [dag_dist.j1])
    | succ kj11 =>
     have H := HA.out; clear HA; simp only [dag_dist.j1] at H; have HC21 := aM_ H; clear H
     go_upto_if 16 with (fail)
     go_cut [5] (fun v5 wc => ∃ (kq : Nat) (x5_20 : Int), v5 = .int .i64 x5_20 ∧ As_ (dag_dist.j2 kq x5_20 a0_0 a0_1 a0_2 a0_3 a0_4 a0_5 a1_0 a1_1 a1_2 a1_3 a1_4 a1_5 = some r) ∧ As_ (kq ≤ kj11) ∧ As_ (wc.heap[gb274]? = some (.cells #[.int .i64 a0_0, .int .i64 a0_1, .int .i64 a0_2, .int .i64 a0_3, .int .i64 a0_4, .string a0_5] 24 (0, 0))) ∧ As_ (wc.heap[gb275]? = some (.cells #[.int .i64 a1_0, .int .i64 a1_1, .int .i64 a1_2, .int .i64 a1_3, .int .i64 a1_4, .string a1_5] 24 (0, 0))) ∧ As_ (Below w.heap.size w wc))
     case first =>
      have H := HC21.out; clear HC21
      by_cases c22 : x16_11 = true
      ·subst c22; rw [if_pos rfl] at H; replace H := aM_ H; go_wp2
       go_meet
       case rel => exact ⟨_, (1), eQ_, H, ⟨by have := HJ3.out; have := HJ11.out; first | omega | exact Nat.le_refl _⟩, ⟨rB_ BK274⟩, ⟨rB_ BK275⟩, ⟨bt_ HB GE274 GE275⟩⟩
      replace c22 := eF_ c22; subst c22; rw [if_neg Bool.false_ne_true] at H; replace H := aM_ H; go_wp2
      go_meet
      case rel => exact ⟨_, (x5_3), eQ_, H, ⟨by have := HJ3.out; have := HJ11.out; first | omega | exact Nat.le_refl _⟩, ⟨rB_ BK274⟩, ⟨rB_ BK275⟩, ⟨bt_ HB GE274 GE275⟩⟩
     case rest =>
      clear HC21; obtain ⟨kq, x5_20, rfl, HA, HJ20, BK274, BK275, HB⟩ := hcut
      cases kq with
      | zero => exact absurd HA.out (by simp [dag_dist.j2])
      | succ kj20 =>
       have H := HA.out; clear HA; simp only [dag_dist.j2] at H; have HC23 := aM_ H; clear H
       go_upto_region 6 with (fail)
       go_cut [31] (fun v31 wc => ∃ (kq : Nat) (x31_22 : Bool), v31 = .bool x31_22 ∧ As_ (dag_dist.j3 kq x5_20 x31_22 a0_0 a0_1 a0_2 a0_3 a0_4 a0_5 = some r) ∧ As_ (kq ≤ kj20) ∧ As_ (wc.heap[gb274]? = some (.cells #[.int .i64 a0_0, .int .i64 a0_1, .int .i64 a0_2, .int .i64 a0_3, .int .i64 a0_4, .string a0_5] 24 (0, 0))) ∧ As_ (wc.heap[gb275]? = some (.cells #[.int .i64 a1_0, .int .i64 a1_1, .int .i64 a1_2, .int .i64 a1_3, .int .i64 a1_4, .string a1_5] 24 (0, 0))) ∧ As_ (Below w.heap.size w wc))
       case first =>
        have H := HC23.out; clear HC23; obtain ⟨t279, A24, H⟩ := oB_ H
        by_cases c25 : t279 = true
        ·subst c25; rw [if_pos rfl] at H; replace H := aM_ H; have hnb26 := NB275_274.out; have hnc26 := NB274_275.out; obtain ⟨hcz27_0, hcz27_1, hcz27_2, hcz27_3, hcz27_4, hcz27_5⟩ := cl6_ BK275.out; obtain ⟨hfz27_0, hfz27_1, hfz27_2, hfz27_3, hfz27_4, hfz27_5⟩ := fz6_ BK275.out; obtain ⟨hcz28_0, hcz28_1, hcz28_2, hcz28_3, hcz28_4, hcz28_5⟩ := cl6_ BK274.out; obtain ⟨hfz28_0, hfz28_1, hfz28_2, hfz28_3, hfz28_4, hfz28_5⟩ := fz6_ BK274.out
         go_wp2_with (first | ((with_reducible refine gC_ (f := 101) rfl ?_); refine gL_ (some 19) Tryz.func101 #[.agg #[.int .i64 a1_0, .int .i64 a1_1, .int .i64 a1_2, .int .i64 a1_3, .int .i64 a1_4, .string a1_5], .agg #[.int .i64 a0_0, .int .i64 a0_1, .int .i64 a0_2, .int .i64 a0_3, .int .i64 a0_4, .string a0_5]] rfl ?_; (with_reducible refine (dag_reads.calls kj20 a1_0 a1_1 a1_2 a1_3 a1_4 a1_5 a0_0 a0_1 a0_2 a0_3 a0_4 a0_5 true _ A24.out).mono ?_); rintro e w29 ⟨rfl, hb⟩; refine ⟨_, rfl, ?_⟩; replace BK274 := aM_ (kB_ (rB_ BK274) hb); replace BK275 := aM_ (kB_ (rB_ BK275) hb); replace HB := aM_ (bT_ (bt_ HB GE274 GE275) hb)))
         go_meet
         case rel => exact ⟨_, (true), eQ_, H, ⟨by have := HJ3.out; have := HJ11.out; have := HJ20.out; first | omega | exact Nat.le_refl _⟩, ⟨rB_ BK274⟩, ⟨rB_ BK275⟩, ⟨bt_ HB GE274 GE275⟩⟩
        replace c25 := eF_ c25; subst c25; rw [if_neg Bool.false_ne_true] at H; obtain ⟨t280, A30, H⟩ := oB_ H; obtain ⟨t281, A31, H⟩ := oB_ H
        by_cases c32 : t281 = true
        ·subst c32; rw [if_pos rfl] at H; obtain ⟨t282, A33, H⟩ := oB_ H; replace H := aM_ H; have hnb34 := NB275_274.out; have hnc34 := NB274_275.out; obtain ⟨hcz35_0, hcz35_1, hcz35_2, hcz35_3, hcz35_4, hcz35_5⟩ := cl6_ BK275.out; obtain ⟨hfz35_0, hfz35_1, hfz35_2, hfz35_3, hfz35_4, hfz35_5⟩ := fz6_ BK275.out; obtain ⟨hcz36_0, hcz36_1, hcz36_2, hcz36_3, hcz36_4, hcz36_5⟩ := cl6_ BK274.out; obtain ⟨hfz36_0, hfz36_1, hfz36_2, hfz36_3, hfz36_4, hfz36_5⟩ := fz6_ BK274.out
         go_wp2_with (first | ((with_reducible refine gC_ (f := 101) rfl ?_); refine gL_ (some 19) Tryz.func101 #[.agg #[.int .i64 a1_0, .int .i64 a1_1, .int .i64 a1_2, .int .i64 a1_3, .int .i64 a1_4, .string a1_5], .agg #[.int .i64 a0_0, .int .i64 a0_1, .int .i64 a0_2, .int .i64 a0_3, .int .i64 a0_4, .string a0_5]] rfl ?_; (with_reducible refine (dag_reads.calls kj20 a1_0 a1_1 a1_2 a1_3 a1_4 a1_5 a0_0 a0_1 a0_2 a0_3 a0_4 a0_5 false _ A24.out).mono ?_); rintro e w37 ⟨rfl, hb⟩; refine ⟨_, rfl, ?_⟩; replace BK274 := aM_ (kB_ (rB_ BK274) hb); replace BK275 := aM_ (kB_ (rB_ BK275) hb); replace HB := aM_ (bT_ (bt_ HB GE274 GE275) hb); obtain ⟨hcz38_0, hcz38_1, hcz38_2, hcz38_3, hcz38_4, hcz38_5⟩ := cl6_ BK275.out; obtain ⟨hfz38_0, hfz38_1, hfz38_2, hfz38_3, hfz38_4, hfz38_5⟩ := fz6_ BK275.out) | (go_at_call 89; (with_reducible refine (isa_Shape.calls kj20 a1_0 t280 _ A30.out).mono ?_); rintro e w' ⟨rfl, ⟨nd, rfl⟩⟩) | (go_at_call 91; (with_reducible refine (isa_HasD.calls t280 true _ A31.out).mono ?_); rintro e w' ⟨rfl, ⟨nd, rfl⟩⟩; obtain ⟨hcz39_0, hcz39_1, hcz39_2, hcz39_3, hcz39_4, hcz39_5⟩ := cl6_ BK274.out; obtain ⟨hfz39_0, hfz39_1, hfz39_2, hfz39_3, hfz39_4, hfz39_5⟩ := fz6_ BK274.out) | (go_at_call 102; (with_reducible refine (dag_writes.calls kj20 a0_0 a0_1 a0_2 a0_3 a0_4 a0_5 a1_1 t282 _ A33.out).mono ?_); rintro e w40 ⟨rfl, hb⟩; replace BK274 := aM_ (kB_ (rB_ BK274) hb); replace BK275 := aM_ (kB_ (rB_ BK275) hb); replace HB := aM_ (bT_ (bt_ HB GE274 GE275) hb)))
         go_meet
         case rel => exact ⟨_, (t282), eQ_, H, ⟨by have := HJ3.out; have := HJ11.out; have := HJ20.out; first | omega | exact Nat.le_refl _⟩, ⟨rB_ BK274⟩, ⟨rB_ BK275⟩, ⟨bt_ HB GE274 GE275⟩⟩
        replace c32 := eF_ c32; subst c32; rw [if_neg Bool.false_ne_true] at H; replace H := aM_ H; have hnb41 := NB275_274.out; have hnc41 := NB274_275.out; obtain ⟨hcz42_0, hcz42_1, hcz42_2, hcz42_3, hcz42_4, hcz42_5⟩ := cl6_ BK275.out; obtain ⟨hfz42_0, hfz42_1, hfz42_2, hfz42_3, hfz42_4, hfz42_5⟩ := fz6_ BK275.out; obtain ⟨hcz43_0, hcz43_1, hcz43_2, hcz43_3, hcz43_4, hcz43_5⟩ := cl6_ BK274.out; obtain ⟨hfz43_0, hfz43_1, hfz43_2, hfz43_3, hfz43_4, hfz43_5⟩ := fz6_ BK274.out
        go_wp2_with (first | ((with_reducible refine gC_ (f := 101) rfl ?_); refine gL_ (some 19) Tryz.func101 #[.agg #[.int .i64 a1_0, .int .i64 a1_1, .int .i64 a1_2, .int .i64 a1_3, .int .i64 a1_4, .string a1_5], .agg #[.int .i64 a0_0, .int .i64 a0_1, .int .i64 a0_2, .int .i64 a0_3, .int .i64 a0_4, .string a0_5]] rfl ?_; (with_reducible refine (dag_reads.calls kj20 a1_0 a1_1 a1_2 a1_3 a1_4 a1_5 a0_0 a0_1 a0_2 a0_3 a0_4 a0_5 false _ A24.out).mono ?_); rintro e w44 ⟨rfl, hb⟩; refine ⟨_, rfl, ?_⟩; replace BK274 := aM_ (kB_ (rB_ BK274) hb); replace BK275 := aM_ (kB_ (rB_ BK275) hb); replace HB := aM_ (bT_ (bt_ HB GE274 GE275) hb); obtain ⟨hcz45_0, hcz45_1, hcz45_2, hcz45_3, hcz45_4, hcz45_5⟩ := cl6_ BK275.out; obtain ⟨hfz45_0, hfz45_1, hfz45_2, hfz45_3, hfz45_4, hfz45_5⟩ := fz6_ BK275.out) | (go_at_call 89; (with_reducible refine (isa_Shape.calls kj20 a1_0 t280 _ A30.out).mono ?_); rintro e w' ⟨rfl, ⟨nd, rfl⟩⟩) | (go_at_call 91; (with_reducible refine (isa_HasD.calls t280 false _ A31.out).mono ?_); rintro e w' ⟨rfl, ⟨nd, rfl⟩⟩))
        go_meet
        case rel => exact ⟨_, (false), eQ_, H, ⟨by have := HJ3.out; have := HJ11.out; have := HJ20.out; first | omega | exact Nat.le_refl _⟩, ⟨rB_ BK274⟩, ⟨rB_ BK275⟩, ⟨bt_ HB GE274 GE275⟩⟩
       case rest =>
        clear HC23; obtain ⟨kq, x31_22, rfl, HA, HJ22, BK274, BK275, HB⟩ := hcut
        cases kq with
        | zero => exact absurd HA.out (by simp [dag_dist.j3])
        | succ kj22 =>
         have H := HA.out; clear HA; simp only [dag_dist.j3] at H
         by_cases c46 : x31_22 = true
         ·subst c46; rw [if_pos rfl] at H; obtain ⟨t283, A47, H⟩ := oB_ H; obtain ⟨ji48, hji48⟩ : ∃ j_ : Int, (mx x5_20 t283) = j_ := ⟨_, rfl⟩
          replace H : (some ji48) = some r := by first | (rw [hji48] at H; exact H) | (simp only [hji48] at H ⊢; exact H)
          (try rw [hji48] at A47)
          have hji48_ : (if x5_20 < t283 then t283 else x5_20) = ji48 := hji48; obtain rfl := oI_ H; have hnb49 := NB274_275.out; have hnc49 := NB275_274.out; obtain ⟨hcz50_0, hcz50_1, hcz50_2, hcz50_3, hcz50_4, hcz50_5⟩ := cl6_ BK274.out; obtain ⟨hfz50_0, hfz50_1, hfz50_2, hfz50_3, hfz50_4, hfz50_5⟩ := fz6_ BK274.out
          go_wp2_with (first | ((with_reducible refine gC_ (f := 95) rfl ?_); refine gL_ (some 35) Tryz.func95 #[.int .i64 a0_0] rfl ?_; (with_reducible refine (isa_Late.calls kj22 a0_0 t283 _ A47.out).mono ?_); rintro e w' ⟨rfl, ⟨nd, rfl⟩⟩; refine ⟨_, rfl, ?_⟩))
          go_ret; exact ⟨by first | rfl | (simp [eN_, eS_] <;> rfl) | (simp only [← hji48]; first | rfl | (simp [eN_, eS_] <;> rfl)) | (simp [*, eN_, eS_] <;> rfl), bt_ HB GE274 GE275⟩
         replace c46 := eF_ c46; subst c46; rw [if_neg Bool.false_ne_true] at H; obtain rfl := oI_ H; go_wp2; go_ret; exact ⟨eR_, bt_ HB GE274 GE275⟩
end
end Go.Proofs.YtibfkkjkahpobaaGreat.PDag
