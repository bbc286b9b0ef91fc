-- written by this session's changed print (wip/myprint)
import Derived.Test.YtfnchdlgkkdegaaPAllx0
import Derived.Test.YtfnchdlgkkdegaaPAllx1
import Derived.Test.YtfnchdlgkkdegaaPAllx8
import Derived.Test.YtfnchdlgkkdegaaPAllx9
import Derived.Test.YtfnchdlgkkdegaaPAllx10
import Derived.Test.YtfnchdlgkkdegaaPAllx11
namespace Go.Proofs.Ytfnchdlgkkdegaa.PAll
open Go.RowKit Go.Proofs.YtfnchdlgkkdegaaW.PrintWords Go.Proofs.YtfnchdlgkkdegaaW.PrintLast Go.Proofs.YtfnchdlgkkdegaaW.PrintMore
attribute [local go_sem] max2_int min2_int max_two min_two max_three min_three max_four min_four   -- for this text's walks alone
set_option linter.unusedVariables false
set_option linter.unusedSimpArgs false

attribute [local go_sem high] eqA35
/-! ### sledgelaw4_BitsNone: function 5 -/
mutual
def sledgelaw4_BitsNone.l0 : Nat → Int → Option (Bool)
  | 0, _ => none
  | k + 1, x3 => if x3 < 64 then (sledgelaw4_BitsNone.l1 k x3 0) else ((sledgelaw4_wakes.f k).bind fun t266 => (some t266))
def sledgelaw4_BitsNone.l1 : Nat → Int → Int → Option (Bool)
  | 0, _, _ => none
  | k + 1, x3, x4 => if x4 < 26 then (if 0 ≤ x4 then ((bits_Ins.f k (Go.bits .or .u32 ((((x3) % 4294967296) * 67108864) % 4294967296) (shl .u32 1 x4))).bind fun bt267 => ((sledgeref3_Unword.f k (Go.bits .or .u32 ((((x3) % 4294967296) * 67108864) % 4294967296) (shl .u32 1 x4))).bind fun bt275 => ((sledgelaw4_num.f bt267.2.2.2.2.2.2).bind fun t283 => (if (bt275.2.2.2.2.2.2 != (t283 == 0)) = true then (sledgelaw4_BitsNone.j2 k x3 x4 true) else (if (!(bt267.1 == bt275.1) || (!(bt267.2.1 == bt275.2.1) || (!(bt267.2.2.1 == bt275.2.2.1) || (!(bt267.2.2.2.1 == bt275.2.2.2.1) || (!(bt267.2.2.2.2.1 == bt275.2.2.2.2.1) || (!(bt267.2.2.2.2.2.1.toList == bt275.2.2.2.2.2.1.toList))))))) = true then (sledgelaw4_BitsNone.j2 k x3 x4 true) else (if x3 > 33 then (sledgelaw4_BitsNone.j2 k x3 x4 bt275.2.2.2.2.2.2) else (sledgelaw4_BitsNone.j2 k x3 x4 false))))))) else (none)) else (sledgelaw4_BitsNone.l0 k (wrap64 (x3 + 1)))
def sledgelaw4_BitsNone.j2 : Nat → Int → Int → Bool → Option (Bool)
  | 0, _, _, _ => none
  | k + 1, x3, x4, x50 => if x50 = true then (some false) else (sledgelaw4_BitsNone.l1 k x3 (wrap64 (x4 + 1)))
end
def sledgelaw4_BitsNone.f (k : Nat) (l0_0 : List (S35)) (l0_1 : List ByteArray) (l0_2 : List Int) (l0_3 : List Int) (l0_4 : List (S52)) : Option (Bool) := sledgelaw4_BitsNone.l0 k 0
theorem sledgelaw4_BitsNone.mono_l : ∀ k, (∀ y0, LeO (sledgelaw4_BitsNone.l0 k y0) (sledgelaw4_BitsNone.l0 (k + 1) y0)) ∧ (∀ y0 y1, LeO (sledgelaw4_BitsNone.l1 k y0 y1) (sledgelaw4_BitsNone.l1 (k + 1) y0 y1)) ∧ (∀ y0 y1 y2, LeO (sledgelaw4_BitsNone.j2 k y0 y1 y2) (sledgelaw4_BitsNone.j2 (k + 1) y0 y1 y2))
  | 0 => ⟨fun _ r h => by simp [sledgelaw4_BitsNone.l0] at h, fun _ _ r h => by simp [sledgelaw4_BitsNone.l1] at h, fun _ _ _ r h => by simp [sledgelaw4_BitsNone.j2] at h⟩
  | k + 1 => by
    obtain ⟨ih0, ih1, ih2⟩ := sledgelaw4_BitsNone.mono_l k
    refine ⟨?_, ?_, ?_⟩
    · intro y0
      unfold sledgelaw4_BitsNone.l0
      repeat' first
      | (with_reducible exact ih0 _)
      | (with_reducible exact ih1 _ _)
      | (with_reducible exact ih2 _ _ _)
      | (with_reducible exact bits_Ins.mono _ _)
      | (with_reducible exact sledgelaw4_wakes.mono _)
      | (with_reducible exact sledgeref3_Unword.mono _ _)
      | (with_reducible exact LeO.refl _)
      | (with_reducible exact LeO.none _)
      | (with_reducible refine LeO.ite ?_ ?_)
      | (with_reducible refine LeO.bind ?_ (fun _ => ?_))
      | exact ih0 _
      | exact ih1 _ _
      | exact ih2 _ _ _
      | exact bits_Ins.mono _ _
      | exact sledgelaw4_wakes.mono _
      | exact sledgeref3_Unword.mono _ _
      | exact LeO.none _
      | refine LeO.ite ?_ ?_
      | refine LeO.bind ?_ (fun _ => ?_)
    · intro y0 y1
      unfold sledgelaw4_BitsNone.l1
      repeat' first
      | (with_reducible exact ih0 _)
      | (with_reducible exact ih1 _ _)
      | (with_reducible exact ih2 _ _ _)
      | (with_reducible exact bits_Ins.mono _ _)
      | (with_reducible exact sledgelaw4_wakes.mono _)
      | (with_reducible exact sledgeref3_Unword.mono _ _)
      | (with_reducible exact LeO.refl _)
      | (with_reducible exact LeO.none _)
      | (with_reducible refine LeO.ite ?_ ?_)
      | (with_reducible refine LeO.bind ?_ (fun _ => ?_))
      | exact ih0 _
      | exact ih1 _ _
      | exact ih2 _ _ _
      | exact bits_Ins.mono _ _
      | exact sledgelaw4_wakes.mono _
      | exact sledgeref3_Unword.mono _ _
      | exact LeO.none _
      | refine LeO.ite ?_ ?_
      | refine LeO.bind ?_ (fun _ => ?_)
    · intro y0 y1 y2
      unfold sledgelaw4_BitsNone.j2
      repeat' first
      | (with_reducible exact ih0 _)
      | (with_reducible exact ih1 _ _)
      | (with_reducible exact ih2 _ _ _)
      | (with_reducible exact bits_Ins.mono _ _)
      | (with_reducible exact sledgelaw4_wakes.mono _)
      | (with_reducible exact sledgeref3_Unword.mono _ _)
      | (with_reducible exact LeO.refl _)
      | (with_reducible exact LeO.none _)
      | (with_reducible refine LeO.ite ?_ ?_)
      | (with_reducible refine LeO.bind ?_ (fun _ => ?_))
      | exact ih0 _
      | exact ih1 _ _
      | exact ih2 _ _ _
      | exact bits_Ins.mono _ _
      | exact sledgelaw4_wakes.mono _
      | exact sledgeref3_Unword.mono _ _
      | exact LeO.none _
      | refine LeO.ite ?_ ?_
      | refine LeO.bind ?_ (fun _ => ?_)
theorem sledgelaw4_BitsNone.mono : ∀ a0 a1 a2 a3 a4 k, LeO (sledgelaw4_BitsNone.f k a0 a1 a2 a3 a4) (sledgelaw4_BitsNone.f (k + 1) a0 a1 a2 a3 a4) := by
  intro a0 a1 a2 a3 a4 k
  obtain ⟨ih0, ih1, ih2⟩ := sledgelaw4_BitsNone.mono_l k
  unfold sledgelaw4_BitsNone.f
  repeat' first
      | (with_reducible exact ih0 _)
      | (with_reducible exact ih1 _ _)
      | (with_reducible exact ih2 _ _ _)
      | (with_reducible exact bits_Ins.mono _ _)
      | (with_reducible exact sledgelaw4_wakes.mono _)
      | (with_reducible exact sledgeref3_Unword.mono _ _)
      | (with_reducible exact LeO.refl _)
      | (with_reducible exact LeO.none _)
      | (with_reducible refine LeO.ite ?_ ?_)
      | (with_reducible refine LeO.bind ?_ (fun _ => ?_))
      | exact ih0 _
      | exact ih1 _ _
      | exact ih2 _ _ _
      | exact bits_Ins.mono _ _
      | exact sledgelaw4_wakes.mono _
      | exact sledgeref3_Unword.mono _ _
      | exact LeO.none _
      | refine LeO.ite ?_ ?_
      | refine LeO.bind ?_ (fun _ => ?_)
set_option maxHeartbeats 8000000 in
set_option maxRecDepth 100000 in
theorem sledgelaw4_BitsNone.calls (k : Nat) (A0_0 : Option Addr) (c0_0 : Nat) (l0_0 : List (S35)) (A0_1 : Option Addr) (c0_1 : Nat) (l0_1 : List ByteArray) (A0_2 : Option Addr) (c0_2 : Nat) (l0_2 : List Int) (A0_3 : Option Addr) (c0_3 : Nat) (l0_3 : List Int) (A0_4 : Option Addr) (c0_4 : Nat) (l0_4 : List (S52)) (r : Bool) (w : World) (hr0_0 : Kd.C k35 w A0_0 l0_0.length l0_0) (hc0_0 : l0_0.length ≤ c0_0) (hr0_1 : Kd.C Kd.string w A0_1 l0_1.length l0_1) (hc0_1 : l0_1.length ≤ c0_1) (hr0_2 : Kd.C (Kd.int .u32) w A0_2 l0_2.length l0_2) (hc0_2 : l0_2.length ≤ c0_2) (hr0_3 : Kd.C (Kd.int .i64) w A0_3 l0_3.length l0_3) (hc0_3 : l0_3.length ≤ c0_3) (hr0_4 : Kd.C k52 w A0_4 l0_4.length l0_4) (hc0_4 : l0_4.length ≤ c0_4) (h : sledgelaw4_BitsNone.f k l0_0 l0_1 l0_2 l0_3 l0_4 = some r) :
    Calls Try.prog 5 #[.agg #[.slice A0_0 l0_0.length c0_0, .slice A0_1 l0_1.length c0_1, .slice A0_2 l0_2.length c0_2, .slice A0_3 l0_3.length c0_3, .slice A0_4 l0_4.length c0_4]] w fun e w' => e = .returned (.bool r) ∧ Below w.heap.size w w' := by
  have hu32 := Try.underlying32
  have hu35 := Try.underlying35
  have HR0_0 := Aside0.mk hr0_0
  have HC0_0 := Aside0.mk hc0_0
  clear hr0_0 hc0_0
  have HR0_1 := Aside0.mk hr0_1
  have HC0_1 := Aside0.mk hc0_1
  clear hr0_1 hc0_1
  have HR0_2 := Aside0.mk hr0_2
  have HC0_2 := Aside0.mk hc0_2
  clear hr0_2 hc0_2
  have HR0_3 := Aside0.mk hr0_3
  have HC0_3 := Aside0.mk hc0_3
  clear hr0_3 hc0_3
  have HR0_4 := Aside0.mk hr0_4
  have HC0_4 := Aside0.mk hc0_4
  clear hr0_4 hc0_4
  have HB := Aside0.mk (Below.refl w.heap.size w)
  have H : (sledgelaw4_BitsNone.l0 k 0) = some r := h
  clear h
  have H' := Aside0.mk H
  clear H
  go_enter Try.func5, Try.ntmps5
  go_wp2_with (first | ((with_reducible refine gate_dst (N := 1) rfl ?_); refine box_event ?hg (N := 1) ?hd (cs := #[.slice A0_0 l0_0.length c0_0, .slice A0_1 l0_1.length c0_1, .slice A0_2 l0_2.length c0_2, .slice A0_3 l0_3.length c0_3, .slice A0_4 l0_4.length c0_4]) (t := 32) ?hr ?_; (case hd => rfl); (case hg => rfl); (case hr => first | (go_simp; done) | (go_simp; rfl)); intro gb265 hg w2 hbox hb; have n0_ := Aside0.mk (below_step (by repeat (first | (with_reducible first | exact HB.out | apply below_alloc | apply pw_below_drewN | apply below_drew1) | exact HB.out)) hb); have n1_ := Aside0.mk (hbox); have n2_ := Aside0.mk ((by rw [hg]; exact (below_size (by repeat (first | (with_reducible first | exact HB.out | apply below_alloc | apply pw_below_drewN | apply below_drew1) | exact HB.out))) : w.heap.size ≤ gb265)); have n3_ := Aside0.mk ((by rw [hg]; exact (below_size (by repeat (first | (with_reducible first | exact HB.out | apply below_alloc | apply pw_below_drewN | apply below_drew1) | exact HB.out))) : w.heap.size ≤ gb265)); clear HB; have HB := n0_; have BK265 := n1_; have GW265 := n2_; have GE265 := n3_; clear n0_ n1_ n2_ n3_; clear hb hbox hg))
  go_loopg [3] k (fun kq v3 w' => ∃ (x3_1 : Int), v3 = .int .i64 x3_1 ∧ Aside0 (sledgelaw4_BitsNone.l0 kq x3_1 = some r) ∧ Aside0 (kq ≤ k) ∧ Aside0 (w'.heap[gb265]? = some (.cells #[(.slice A0_0 l0_0.length c0_0), (.slice A0_1 l0_1.length c0_1), (.slice A0_2 l0_2.length c0_2), (.slice A0_3 l0_3.length c0_3), (.slice A0_4 l0_4.length c0_4)] 32 (0, 0))) ∧ Aside0 (Below w.heap.size w w'))
  case atStart => exact ⟨(0), (by first | rfl | (simp; done) | (simp [*]; done) | (congr 1; rw [Bool.eq_iff_iff]; simp; done)), H', ⟨Nat.le_refl _⟩, ⟨by (with_reducible repeat (first | refine blk_drewN ?_ _ | refine blk_drew ?_ | refine blk_alloc ?_ _)); exact BK265.out⟩, ⟨by repeat (first | (with_reducible first | exact HB.out | apply below_alloc | apply pw_below_drewN | apply below_drew1 | refine below_set ?_ GE265.out) | exact HB.out)⟩⟩
  case round =>
    clear H'
    try clear p2
    obtain ⟨x3_1, rfl, HA, HK1, BK265, HB⟩ := hrel
    cases gk with
    | zero => exact absurd HA.out (by simp [sledgelaw4_BitsNone.l0])
    | succ k1 =>
      have H := HA.out
      clear HA
      simp only [sledgelaw4_BitsNone.l0] at H
      by_cases c3 : x3_1 < 64
      · rw [if_pos c3] at H
        have c3b0 : decide (x3_1 < 64) = true := decide_eq_true c3
        clear c3
        have H' := Aside0.mk H
        clear H
        go_wp2
        go_loopg [4] k1 (fun kq v4 w' => ∃ (x4_2 : Int), v4 = .int .i64 x4_2 ∧ Aside0 (sledgelaw4_BitsNone.l1 kq x3_1 x4_2 = some r) ∧ Aside0 (kq ≤ k1) ∧ Aside0 (w'.heap[gb265]? = some (.cells #[(.slice A0_0 l0_0.length c0_0), (.slice A0_1 l0_1.length c0_1), (.slice A0_2 l0_2.length c0_2), (.slice A0_3 l0_3.length c0_3), (.slice A0_4 l0_4.length c0_4)] 32 (0, 0))) ∧ Aside0 (Below w.heap.size w w'))
        case atStart => exact ⟨(0), (by first | rfl | (simp; done) | (simp [*]; done) | (congr 1; rw [Bool.eq_iff_iff]; simp; done)), H', ⟨Nat.le_refl _⟩, ⟨by (with_reducible repeat (first | refine blk_drewN ?_ _ | refine blk_drew ?_ | refine blk_alloc ?_ _)); exact BK265.out⟩, ⟨by repeat (first | (with_reducible first | exact HB.out | apply below_alloc | apply pw_below_drewN | apply below_drew1 | refine below_set ?_ GE265.out) | exact HB.out)⟩⟩
        case round =>
          clear H'
          try clear p2
          try clear c3
          try clear c3b0
          try clear p2
          obtain ⟨x4_2, rfl, HA, HK2, BK265, HB⟩ := hrel
          cases gk with
          | zero => exact absurd HA.out (by simp [sledgelaw4_BitsNone.l1])
          | succ k2 =>
            have H := HA.out
            clear HA
            simp only [sledgelaw4_BitsNone.l1] at H
            by_cases c4 : x4_2 < 26
            · rw [if_pos c4] at H
              have c4b0 : decide (x4_2 < 26) = true := decide_eq_true c4
              clear c4
              by_cases c5 : 0 ≤ x4_2
              · rw [if_pos c5] at H
                have c5b0 := eq_true c5
                have c5b1 : decide (0 ≤ x4_2) = true := decide_eq_true c5
                clear c5
                obtain ⟨ji6, hji6⟩ : ∃ j_ : Int, (shl .u32 1 x4_2) = j_ := ⟨_, rfl⟩
                replace H : ((bits_Ins.f k2 (Go.bits .or .u32 ((((x3_1) % 4294967296) * 67108864) % 4294967296) (ji6))).bind fun bt267 => ((sledgeref3_Unword.f k2 (Go.bits .or .u32 ((((x3_1) % 4294967296) * 67108864) % 4294967296) (ji6))).bind fun bt275 => ((sledgelaw4_num.f bt267.2.2.2.2.2.2).bind fun t283 => (if (bt275.2.2.2.2.2.2 != (t283 == 0)) = true then (sledgelaw4_BitsNone.j2 k2 x3_1 x4_2 true) else (if (!(bt267.1 == bt275.1) || (!(bt267.2.1 == bt275.2.1) || (!(bt267.2.2.1 == bt275.2.2.1) || (!(bt267.2.2.2.1 == bt275.2.2.2.1) || (!(bt267.2.2.2.2.1 == bt275.2.2.2.2.1) || (!(bt267.2.2.2.2.2.1.toList == bt275.2.2.2.2.2.1.toList))))))) = true then (sledgelaw4_BitsNone.j2 k2 x3_1 x4_2 true) else (if x3_1 > 33 then (sledgelaw4_BitsNone.j2 k2 x3_1 x4_2 bt275.2.2.2.2.2.2) else (sledgelaw4_BitsNone.j2 k2 x3_1 x4_2 false))))))) = some r := by first | (rw [hji6] at H; exact H) | (simp only [hji6] at H ⊢; exact H)
                have hji6_ : (IntKind.u32.wrap (1 * 2 ^ min x4_2.toNat 32)) = ji6 := hji6
                have hji6z : x4_2 ≤ 32 → (IntKind.u32.wrap (1 * 2 ^ x4_2.toNat)) = ji6 := shl_small hji6
                have hji6u : (IntKind.u32.wrap (2 ^ min x4_2.toNat 32)) = ji6 := by have h_ := hji6_; rw [Int.one_mul] at h_; exact h_
                have hji6v : x4_2 ≤ 32 → (IntKind.u32.wrap (2 ^ x4_2.toNat)) = ji6 := fun hle_ => by have h_ := hji6z hle_; rw [Int.one_mul] at h_; exact h_
                replace H := Option.bind_eq_some_iff.mp H
                obtain ⟨⟨t267, t268, t269, t270, t271, t272, t273⟩, A70, H⟩ := H
                replace H : ((sledgeref3_Unword.f k2 (Go.bits .or .u32 ((((x3_1) % 4294967296) * 67108864) % 4294967296) (ji6))).bind fun bt275 => ((sledgelaw4_num.f t273).bind fun t283 => (if (bt275.2.2.2.2.2.2 != (t283 == 0)) = true then (sledgelaw4_BitsNone.j2 k2 x3_1 x4_2 true) else (if (!(t267 == bt275.1) || (!(t268 == bt275.2.1) || (!(t269 == bt275.2.2.1) || (!(t270 == bt275.2.2.2.1) || (!(t271 == bt275.2.2.2.2.1) || (!(t272.toList == bt275.2.2.2.2.2.1.toList))))))) = true then (sledgelaw4_BitsNone.j2 k2 x3_1 x4_2 true) else (if x3_1 > 33 then (sledgelaw4_BitsNone.j2 k2 x3_1 x4_2 bt275.2.2.2.2.2.2) else (sledgelaw4_BitsNone.j2 k2 x3_1 x4_2 false)))))) = some r := H
                have A7 := Aside0.mk A70
                clear A70
                replace H := Option.bind_eq_some_iff.mp H
                obtain ⟨⟨t275, t276, t277, t278, t279, t280, t281⟩, A80, H⟩ := H
                replace H : ((sledgelaw4_num.f t273).bind fun t283 => (if (t281 != (t283 == 0)) = true then (sledgelaw4_BitsNone.j2 k2 x3_1 x4_2 true) else (if (!(t267 == t275) || (!(t268 == t276) || (!(t269 == t277) || (!(t270 == t278) || (!(t271 == t279) || (!(t272.toList == t280.toList))))))) = true then (sledgelaw4_BitsNone.j2 k2 x3_1 x4_2 true) else (if x3_1 > 33 then (sledgelaw4_BitsNone.j2 k2 x3_1 x4_2 t281) else (sledgelaw4_BitsNone.j2 k2 x3_1 x4_2 false))))) = some r := H
                have A8 := Aside0.mk A80
                clear A80
                have HC9 := Aside0.mk H
                clear H
                go_upto_region 10 with (first | ((with_reducible refine gate_callee (f := 12) rfl ?_); refine goesL_ (some 26) rfl rfl Try.func12 (by kernel_rfl) rfl #[.int .u32 (Go.bits .or .u32 ((((x3_1) % 4294967296) * 67108864) % 4294967296) (ji6))] rfl (by (try simp only [List.map_toArray, List.map_cons, List.map_nil]); first | done | (simp only [hji6]; rfl) | rfl | (simp only [List.length_drop, List.length_take]; rfl)) ?_; (with_reducible refine (bits_Ins.calls k2 (Go.bits .or .u32 ((((x3_1) % 4294967296) * 67108864) % 4294967296) (ji6)) t267 t268 t269 t270 t271 t272 t273 _ A7.out).mono ?_); rintro e w10 ⟨rfl, hb⟩; refine ⟨_, rfl, ?_⟩; have n0_ := Aside0.mk (blk_below (g := gb265) (o := .cells #[.slice A0_0 l0_0.length c0_0, .slice A0_1 l0_1.length c0_1, .slice A0_2 l0_2.length c0_2, .slice A0_3 l0_3.length c0_3, .slice A0_4 l0_4.length c0_4] 32 (0, 0)) (by (with_reducible repeat (first | refine blk_drewN ?_ _ | refine blk_drew ?_ | refine blk_alloc ?_ _)); exact BK265.out) hb); have n1_ := Aside0.mk (below_step (by repeat (first | (with_reducible first | exact HB.out | apply below_alloc | apply pw_below_drewN | apply below_drew1 | refine below_set ?_ GE265.out) | exact HB.out)) hb); clear BK265; clear HB; have BK265 := n0_; have HB := n1_; clear n0_ n1_; (try clear hb); (try clear hb2); (try clear hk); (try clear hi)) | ((with_reducible refine gate_dst (N := 6) rfl ?_); refine box_event ?hg (N := 6) ?hd (cs := #[.int .i64 0, .int .i64 0, .int .i64 0, .int .i64 0, .int .i64 0, .string (⟨#[]⟩ : ByteArray)]) (t := 35) ?hr ?_; (case hd => rfl); (case hg => rfl); (case hr => first | (go_simp; done) | (go_simp; rfl)); intro gb274 hg w11 hbox hb; have n0_ := Aside0.mk (blk_below (g := gb265) (o := .cells #[.slice A0_0 l0_0.length c0_0, .slice A0_1 l0_1.length c0_1, .slice A0_2 l0_2.length c0_2, .slice A0_3 l0_3.length c0_3, .slice A0_4 l0_4.length c0_4] 32 (0, 0)) (by (with_reducible repeat (first | refine blk_drewN ?_ _ | refine blk_drew ?_ | refine blk_alloc ?_ _)); exact BK265.out) hb); have n1_ := Aside0.mk (below_step (by repeat (first | (with_reducible first | exact HB.out | apply below_alloc | apply pw_below_drewN | apply below_drew1 | refine below_set ?_ GE265.out) | exact HB.out)) hb); have n2_ := Aside0.mk (hbox); have n3_ := Aside0.mk ((by rw [hg]; exact (below_size (by repeat (first | (with_reducible first | exact HB.out | apply below_alloc | apply pw_below_drewN | apply below_drew1 | refine below_set ?_ GE265.out) | exact HB.out))) : w.heap.size ≤ gb274)); have n4_ := Aside0.mk ((by rw [hg]; exact (below_size (by repeat (first | (with_reducible first | exact HB.out | apply below_alloc | apply pw_below_drewN | apply below_drew1 | refine below_set ?_ GE265.out) | exact HB.out))) : w.heap.size ≤ gb274)); have n5_ := Aside0.mk ((by rw [hg]; exact Nat.ne_of_lt (blk_lt (g := gb265) (o := .cells #[.slice A0_0 l0_0.length c0_0, .slice A0_1 l0_1.length c0_1, .slice A0_2 l0_2.length c0_2, .slice A0_3 l0_3.length c0_3, .slice A0_4 l0_4.length c0_4] 32 (0, 0)) (by (with_reducible repeat (first | refine blk_drewN ?_ _ | refine blk_drew ?_ | refine blk_alloc ?_ _)); exact BK265.out)) : gb265 ≠ gb274)); have n6_ := Aside0.mk ((by rw [hg]; exact Nat.ne_of_gt (blk_lt (g := gb265) (o := .cells #[.slice A0_0 l0_0.length c0_0, .slice A0_1 l0_1.length c0_1, .slice A0_2 l0_2.length c0_2, .slice A0_3 l0_3.length c0_3, .slice A0_4 l0_4.length c0_4] 32 (0, 0)) (by (with_reducible repeat (first | refine blk_drewN ?_ _ | refine blk_drew ?_ | refine blk_alloc ?_ _)); exact BK265.out)) : gb274 ≠ gb265)); clear BK265; clear HB; have BK265 := n0_; have HB := n1_; have BK274 := n2_; have GW274 := n3_; have GE274 := n4_; have NB265_274 := n5_; have NB274_265 := n6_; clear n0_ n1_ n2_ n3_ n4_ n5_ n6_; clear hb hbox hg; have hnb12 := NB274_265.out; have hnc12 := NB265_274.out; have hcz13_0 : w11.cell? ⟨gb274, 0, none⟩ = some (.int .i64 0) := (blk_cell BK274.out 0).trans rfl; have hcz13_1 : w11.cell? ⟨gb274, 1, none⟩ = some (.int .i64 0) := (blk_cell BK274.out 1).trans rfl; have hcz13_2 : w11.cell? ⟨gb274, 2, none⟩ = some (.int .i64 0) := (blk_cell BK274.out 2).trans rfl; have hcz13_3 : w11.cell? ⟨gb274, 3, none⟩ = some (.int .i64 0) := (blk_cell BK274.out 3).trans rfl; have hcz13_4 : w11.cell? ⟨gb274, 4, none⟩ = some (.int .i64 0) := (blk_cell BK274.out 4).trans rfl; have hcz13_5 : w11.cell? ⟨gb274, 5, none⟩ = some (.string (⟨#[]⟩ : ByteArray)) := (blk_cell BK274.out 5).trans rfl; have hfz13_0 := blk_frozen BK274.out 0; have hfz13_1 := blk_frozen BK274.out 1; have hfz13_2 := blk_frozen BK274.out 2; have hfz13_3 := blk_frozen BK274.out 3; have hfz13_4 := blk_frozen BK274.out 4; have hfz13_5 := blk_frozen BK274.out 5) | ((with_reducible refine gate_callee (f := 13) rfl ?_); refine goesL_ (some 31) rfl rfl Try.func13 (by kernel_rfl) rfl #[.int .u32 (Go.bits .or .u32 ((((x3_1) % 4294967296) * 67108864) % 4294967296) (ji6))] rfl (by (try simp only [List.map_toArray, List.map_cons, List.map_nil]); first | done | (simp only [hji6]; rfl) | rfl | (simp only [List.length_drop, List.length_take]; rfl)) ?_; (with_reducible refine (sledgeref3_Unword.calls k2 (Go.bits .or .u32 ((((x3_1) % 4294967296) * 67108864) % 4294967296) (ji6)) t275 t276 t277 t278 t279 t280 t281 _ A8.out).mono ?_); rintro e w14 ⟨rfl, hb⟩; refine ⟨_, rfl, ?_⟩; have n0_ := Aside0.mk (blk_below (g := gb265) (o := .cells #[.slice A0_0 l0_0.length c0_0, .slice A0_1 l0_1.length c0_1, .slice A0_2 l0_2.length c0_2, .slice A0_3 l0_3.length c0_3, .slice A0_4 l0_4.length c0_4] 32 (0, 0)) (by (with_reducible repeat (first | refine blk_drewN ?_ _ | refine blk_drew ?_ | refine blk_alloc ?_ _)); refine blk_far ?_ NB265_274.out _; (with_reducible repeat (first | refine blk_drewN ?_ _ | refine blk_drew ?_ | refine blk_alloc ?_ _)); refine blk_far ?_ NB265_274.out _; (with_reducible repeat (first | refine blk_drewN ?_ _ | refine blk_drew ?_ | refine blk_alloc ?_ _)); refine blk_far ?_ NB265_274.out _; (with_reducible repeat (first | refine blk_drewN ?_ _ | refine blk_drew ?_ | refine blk_alloc ?_ _)); refine blk_far ?_ NB265_274.out _; (with_reducible repeat (first | refine blk_drewN ?_ _ | refine blk_drew ?_ | refine blk_alloc ?_ _)); refine blk_far ?_ NB265_274.out _; (with_reducible repeat (first | refine blk_drewN ?_ _ | refine blk_drew ?_ | refine blk_alloc ?_ _)); refine blk_far ?_ NB265_274.out _; (with_reducible repeat (first | refine blk_drewN ?_ _ | refine blk_drew ?_ | refine blk_alloc ?_ _)); exact BK265.out) hb); have n1_ := Aside0.mk (blk_below (g := gb274) (o := .cells #[.int .i64 t267, .int .i64 t268, .int .i64 t269, .int .i64 t270, .int .i64 t271, .string t272] 35 (0, 0)) (by (with_reducible repeat (first | refine blk_drewN ?_ _ | refine blk_drew ?_ | refine blk_alloc ?_ _)); refine blk_put (cs := #[.int .i64 t267, .int .i64 t268, .int .i64 t269, .int .i64 t270, .int .i64 t271, .string (⟨#[]⟩ : ByteArray)]) ?_ 5 _ rfl; (with_reducible repeat (first | refine blk_drewN ?_ _ | refine blk_drew ?_ | refine blk_alloc ?_ _)); refine blk_put (cs := #[.int .i64 t267, .int .i64 t268, .int .i64 t269, .int .i64 t270, .int .i64 0, .string (⟨#[]⟩ : ByteArray)]) ?_ 4 _ rfl; (with_reducible repeat (first | refine blk_drewN ?_ _ | refine blk_drew ?_ | refine blk_alloc ?_ _)); refine blk_put (cs := #[.int .i64 t267, .int .i64 t268, .int .i64 t269, .int .i64 0, .int .i64 0, .string (⟨#[]⟩ : ByteArray)]) ?_ 3 _ rfl; (with_reducible repeat (first | refine blk_drewN ?_ _ | refine blk_drew ?_ | refine blk_alloc ?_ _)); refine blk_put (cs := #[.int .i64 t267, .int .i64 t268, .int .i64 0, .int .i64 0, .int .i64 0, .string (⟨#[]⟩ : ByteArray)]) ?_ 2 _ rfl; (with_reducible repeat (first | refine blk_drewN ?_ _ | refine blk_drew ?_ | refine blk_alloc ?_ _)); refine blk_put (cs := #[.int .i64 t267, .int .i64 0, .int .i64 0, .int .i64 0, .int .i64 0, .string (⟨#[]⟩ : ByteArray)]) ?_ 1 _ rfl; (with_reducible repeat (first | refine blk_drewN ?_ _ | refine blk_drew ?_ | refine blk_alloc ?_ _)); refine blk_put (cs := #[.int .i64 0, .int .i64 0, .int .i64 0, .int .i64 0, .int .i64 0, .string (⟨#[]⟩ : ByteArray)]) ?_ 0 _ rfl; (with_reducible repeat (first | refine blk_drewN ?_ _ | refine blk_drew ?_ | refine blk_alloc ?_ _)); exact BK274.out) hb); have n2_ := Aside0.mk (below_step (by repeat (first | (with_reducible first | exact HB.out | apply below_alloc | apply pw_below_drewN | apply below_drew1 | refine below_set ?_ GE265.out | refine below_set ?_ GE274.out) | exact HB.out)) hb); clear BK265; clear BK274; clear HB; have BK265 := n0_; have BK274 := n1_; have HB := n2_; clear n0_ n1_ n2_; (try clear hb); (try clear hb2); (try clear hk); (try clear hi)) | ((with_reducible refine gate_dst (N := 8) rfl ?_); refine box_event ?hg (N := 8) ?hd (cs := #[.int .i64 0, .int .i64 0, .int .i64 0, .int .i64 0, .int .i64 0, .string (⟨#[]⟩ : ByteArray)]) (t := 35) ?hr ?_; (case hd => rfl); (case hg => rfl); (case hr => first | (go_simp; done) | (go_simp; rfl)); intro gb282 hg w15 hbox hb; have n0_ := Aside0.mk (blk_below (g := gb265) (o := .cells #[.slice A0_0 l0_0.length c0_0, .slice A0_1 l0_1.length c0_1, .slice A0_2 l0_2.length c0_2, .slice A0_3 l0_3.length c0_3, .slice A0_4 l0_4.length c0_4] 32 (0, 0)) (by (with_reducible repeat (first | refine blk_drewN ?_ _ | refine blk_drew ?_ | refine blk_alloc ?_ _)); exact BK265.out) hb); have n1_ := Aside0.mk (blk_below (g := gb274) (o := .cells #[.int .i64 t267, .int .i64 t268, .int .i64 t269, .int .i64 t270, .int .i64 t271, .string t272] 35 (0, 0)) (by (with_reducible repeat (first | refine blk_drewN ?_ _ | refine blk_drew ?_ | refine blk_alloc ?_ _)); exact BK274.out) hb); have n2_ := Aside0.mk (below_step (by repeat (first | (with_reducible first | exact HB.out | apply below_alloc | apply pw_below_drewN | apply below_drew1 | refine below_set ?_ GE265.out | refine below_set ?_ GE274.out) | exact HB.out)) hb); have n3_ := Aside0.mk (hbox); have n4_ := Aside0.mk ((by rw [hg]; exact (below_size (by repeat (first | (with_reducible first | exact HB.out | apply below_alloc | apply pw_below_drewN | apply below_drew1 | refine below_set ?_ GE265.out | refine below_set ?_ GE274.out) | exact HB.out))) : w.heap.size ≤ gb282)); have n5_ := Aside0.mk ((by rw [hg]; exact (below_size (by repeat (first | (with_reducible first | exact HB.out | apply below_alloc | apply pw_below_drewN | apply below_drew1 | refine below_set ?_ GE265.out | refine below_set ?_ GE274.out) | exact HB.out))) : w.heap.size ≤ gb282)); have n6_ := Aside0.mk ((by rw [hg]; exact Nat.ne_of_lt (blk_lt (g := gb265) (o := .cells #[.slice A0_0 l0_0.length c0_0, .slice A0_1 l0_1.length c0_1, .slice A0_2 l0_2.length c0_2, .slice A0_3 l0_3.length c0_3, .slice A0_4 l0_4.length c0_4] 32 (0, 0)) (by (with_reducible repeat (first | refine blk_drewN ?_ _ | refine blk_drew ?_ | refine blk_alloc ?_ _)); exact BK265.out)) : gb265 ≠ gb282)); have n7_ := Aside0.mk ((by rw [hg]; exact Nat.ne_of_gt (blk_lt (g := gb265) (o := .cells #[.slice A0_0 l0_0.length c0_0, .slice A0_1 l0_1.length c0_1, .slice A0_2 l0_2.length c0_2, .slice A0_3 l0_3.length c0_3, .slice A0_4 l0_4.length c0_4] 32 (0, 0)) (by (with_reducible repeat (first | refine blk_drewN ?_ _ | refine blk_drew ?_ | refine blk_alloc ?_ _)); exact BK265.out)) : gb282 ≠ gb265)); have n8_ := Aside0.mk ((by rw [hg]; exact Nat.ne_of_lt (blk_lt (g := gb274) (o := .cells #[.int .i64 t267, .int .i64 t268, .int .i64 t269, .int .i64 t270, .int .i64 t271, .string t272] 35 (0, 0)) (by (with_reducible repeat (first | refine blk_drewN ?_ _ | refine blk_drew ?_ | refine blk_alloc ?_ _)); exact BK274.out)) : gb274 ≠ gb282)); have n9_ := Aside0.mk ((by rw [hg]; exact Nat.ne_of_gt (blk_lt (g := gb274) (o := .cells #[.int .i64 t267, .int .i64 t268, .int .i64 t269, .int .i64 t270, .int .i64 t271, .string t272] 35 (0, 0)) (by (with_reducible repeat (first | refine blk_drewN ?_ _ | refine blk_drew ?_ | refine blk_alloc ?_ _)); exact BK274.out)) : gb282 ≠ gb274)); clear BK265; clear BK274; clear HB; have BK265 := n0_; have BK274 := n1_; have HB := n2_; have BK282 := n3_; have GW282 := n4_; have GE282 := n5_; have NB265_282 := n6_; have NB282_265 := n7_; have NB274_282 := n8_; have NB282_274 := n9_; clear n0_ n1_ n2_ n3_ n4_ n5_ n6_ n7_ n8_ n9_; clear hb hbox hg; have hnb16 := NB282_265.out; have hnc16 := NB265_282.out; have hnb17 := NB282_274.out; have hnc17 := NB274_282.out; have hcz18_0 : w15.cell? ⟨gb282, 0, none⟩ = some (.int .i64 0) := (blk_cell BK282.out 0).trans rfl; have hcz18_1 : w15.cell? ⟨gb282, 1, none⟩ = some (.int .i64 0) := (blk_cell BK282.out 1).trans rfl; have hcz18_2 : w15.cell? ⟨gb282, 2, none⟩ = some (.int .i64 0) := (blk_cell BK282.out 2).trans rfl; have hcz18_3 : w15.cell? ⟨gb282, 3, none⟩ = some (.int .i64 0) := (blk_cell BK282.out 3).trans rfl; have hcz18_4 : w15.cell? ⟨gb282, 4, none⟩ = some (.int .i64 0) := (blk_cell BK282.out 4).trans rfl; have hcz18_5 : w15.cell? ⟨gb282, 5, none⟩ = some (.string (⟨#[]⟩ : ByteArray)) := (blk_cell BK282.out 5).trans rfl; have hfz18_0 := blk_frozen BK282.out 0; have hfz18_1 := blk_frozen BK282.out 1; have hfz18_2 := blk_frozen BK282.out 2; have hfz18_3 := blk_frozen BK282.out 3; have hfz18_4 := blk_frozen BK282.out 4; have hfz18_5 := blk_frozen BK282.out 5))
                (try simp only [Act.put, List.setIfInBounds_toArray, List.set_cons_zero, List.set_cons_succ])
                go_cut [50] (fun v50 wc => ∃ (kq : Nat) (x50_8 : Bool), v50 = .bool x50_8 ∧ Aside0 (sledgelaw4_BitsNone.j2 kq x3_1 x4_2 x50_8 = some r) ∧ Aside0 (kq ≤ k2) ∧ Aside0 (wc.heap[gb265]? = some (.cells #[(.slice A0_0 l0_0.length c0_0), (.slice A0_1 l0_1.length c0_1), (.slice A0_2 l0_2.length c0_2), (.slice A0_3 l0_3.length c0_3), (.slice A0_4 l0_4.length c0_4)] 32 (0, 0))) ∧ Aside0 (wc.heap[gb274]? = some (.cells #[.int .i64 t267, .int .i64 t268, .int .i64 t269, .int .i64 t270, .int .i64 t271, .string t272] 35 (0, 0))) ∧ Aside0 (wc.heap[gb282]? = some (.cells #[.int .i64 t275, .int .i64 t276, .int .i64 t277, .int .i64 t278, .int .i64 t279, .string t280] 35 (0, 0))) ∧ Aside0 (Below w.heap.size w wc))
                case first =>
                  have H := HC9.out
                  clear HC9
                  replace H := Option.bind_eq_some_iff.mp H
                  obtain ⟨t283, A190, H⟩ := H
                  replace H : (if (t281 != (t283 == 0)) = true then (sledgelaw4_BitsNone.j2 k2 x3_1 x4_2 true) else (if (!(t267 == t275) || (!(t268 == t276) || (!(t269 == t277) || (!(t270 == t278) || (!(t271 == t279) || (!(t272.toList == t280.toList))))))) = true then (sledgelaw4_BitsNone.j2 k2 x3_1 x4_2 true) else (if x3_1 > 33 then (sledgelaw4_BitsNone.j2 k2 x3_1 x4_2 t281) else (sledgelaw4_BitsNone.j2 k2 x3_1 x4_2 false)))) = some r := H
                  have A19 := Aside0.mk A190
                  clear A190
                  by_cases c20 : (t281 != (t283 == 0)) = true
                  · rw [if_pos c20] at H
                    have c20b0 : (t281 != (t283 == 0)) = true := c20
                    (try (have c20b1 : decide (t281 = (t283 == 0)) = false := by simpa using c20))
                    (try (have c20b2 : (t281 == (t283 == 0)) = false := by simpa using c20))
                    (try (have c20b3 : ¬ (t281 = (t283 == 0)) := by simpa using c20))
                    clear c20
                    (first | rw [c20b0] | (simp only [i64_w, i32_w]; rw [c20b0]) | skip)
                    have H' := Aside0.mk H
                    clear H
                    go_wp2_with (first | ((with_reducible refine gate_callee (f := 11) rfl ?_); refine goesL_ (some 36) rfl rfl Try.func11 (by kernel_rfl) rfl #[.int .i64 t273] rfl (by (try simp only [List.map_toArray, List.map_cons, List.map_nil]); first | done | rfl | (simp only [List.length_drop, List.length_take]; rfl)) ?_; (with_reducible refine (sledgelaw4_num.calls t273 t283 _ A19.out).mono ?_); rintro e w' ⟨rfl, ⟨nd, rfl⟩⟩; refine ⟨_, rfl, ?_⟩))
                    go_meet
                    case rel => exact ⟨_, (true), (by first | rfl | (simp; done) | (simp [*]; done) | (congr 1; rw [Bool.eq_iff_iff]; simp; done)), H', ⟨by have := HK1.out; have := HK2.out; first | omega | exact Nat.le_refl _⟩, ⟨by (with_reducible repeat (first | refine blk_drewN ?_ _ | refine blk_drew ?_ | refine blk_alloc ?_ _)); refine blk_far ?_ NB265_282.out _; (with_reducible repeat (first | refine blk_drewN ?_ _ | refine blk_drew ?_ | refine blk_alloc ?_ _)); refine blk_far ?_ NB265_282.out _; (with_reducible repeat (first | refine blk_drewN ?_ _ | refine blk_drew ?_ | refine blk_alloc ?_ _)); refine blk_far ?_ NB265_282.out _; (with_reducible repeat (first | refine blk_drewN ?_ _ | refine blk_drew ?_ | refine blk_alloc ?_ _)); refine blk_far ?_ NB265_282.out _; (with_reducible repeat (first | refine blk_drewN ?_ _ | refine blk_drew ?_ | refine blk_alloc ?_ _)); refine blk_far ?_ NB265_282.out _; (with_reducible repeat (first | refine blk_drewN ?_ _ | refine blk_drew ?_ | refine blk_alloc ?_ _)); refine blk_far ?_ NB265_282.out _; (with_reducible repeat (first | refine blk_drewN ?_ _ | refine blk_drew ?_ | refine blk_alloc ?_ _)); exact BK265.out⟩, ⟨by (with_reducible repeat (first | refine blk_drewN ?_ _ | refine blk_drew ?_ | refine blk_alloc ?_ _)); refine blk_far ?_ NB274_282.out _; (with_reducible repeat (first | refine blk_drewN ?_ _ | refine blk_drew ?_ | refine blk_alloc ?_ _)); refine blk_far ?_ NB274_282.out _; (with_reducible repeat (first | refine blk_drewN ?_ _ | refine blk_drew ?_ | refine blk_alloc ?_ _)); refine blk_far ?_ NB274_282.out _; (with_reducible repeat (first | refine blk_drewN ?_ _ | refine blk_drew ?_ | refine blk_alloc ?_ _)); refine blk_far ?_ NB274_282.out _; (with_reducible repeat (first | refine blk_drewN ?_ _ | refine blk_drew ?_ | refine blk_alloc ?_ _)); refine blk_far ?_ NB274_282.out _; (with_reducible repeat (first | refine blk_drewN ?_ _ | refine blk_drew ?_ | refine blk_alloc ?_ _)); refine blk_far ?_ NB274_282.out _; (with_reducible repeat (first | refine blk_drewN ?_ _ | refine blk_drew ?_ | refine blk_alloc ?_ _)); exact BK274.out⟩, ⟨by (with_reducible repeat (first | refine blk_drewN ?_ _ | refine blk_drew ?_ | refine blk_alloc ?_ _)); refine blk_put (cs := #[.int .i64 t275, .int .i64 t276, .int .i64 t277, .int .i64 t278, .int .i64 t279, .string (⟨#[]⟩ : ByteArray)]) ?_ 5 _ rfl; (with_reducible repeat (first | refine blk_drewN ?_ _ | refine blk_drew ?_ | refine blk_alloc ?_ _)); refine blk_put (cs := #[.int .i64 t275, .int .i64 t276, .int .i64 t277, .int .i64 t278, .int .i64 0, .string (⟨#[]⟩ : ByteArray)]) ?_ 4 _ rfl; (with_reducible repeat (first | refine blk_drewN ?_ _ | refine blk_drew ?_ | refine blk_alloc ?_ _)); refine blk_put (cs := #[.int .i64 t275, .int .i64 t276, .int .i64 t277, .int .i64 0, .int .i64 0, .string (⟨#[]⟩ : ByteArray)]) ?_ 3 _ rfl; (with_reducible repeat (first | refine blk_drewN ?_ _ | refine blk_drew ?_ | refine blk_alloc ?_ _)); refine blk_put (cs := #[.int .i64 t275, .int .i64 t276, .int .i64 0, .int .i64 0, .int .i64 0, .string (⟨#[]⟩ : ByteArray)]) ?_ 2 _ rfl; (with_reducible repeat (first | refine blk_drewN ?_ _ | refine blk_drew ?_ | refine blk_alloc ?_ _)); refine blk_put (cs := #[.int .i64 t275, .int .i64 0, .int .i64 0, .int .i64 0, .int .i64 0, .string (⟨#[]⟩ : ByteArray)]) ?_ 1 _ rfl; (with_reducible repeat (first | refine blk_drewN ?_ _ | refine blk_drew ?_ | refine blk_alloc ?_ _)); refine blk_put (cs := #[.int .i64 0, .int .i64 0, .int .i64 0, .int .i64 0, .int .i64 0, .string (⟨#[]⟩ : ByteArray)]) ?_ 0 _ rfl; (with_reducible repeat (first | refine blk_drewN ?_ _ | refine blk_drew ?_ | refine blk_alloc ?_ _)); exact BK282.out⟩, ⟨by repeat (first | (with_reducible first | exact HB.out | apply below_alloc | apply pw_below_drewN | apply below_drew1 | refine below_set ?_ GE265.out | refine below_set ?_ GE274.out | refine below_set ?_ GE282.out) | exact HB.out)⟩⟩
                  · rw [if_neg c20] at H
                    have c20b0 : (t281 != (t283 == 0)) = false := by simpa using c20
                    (try (have c20b1 : decide (t281 = (t283 == 0)) = true := by simpa using c20))
                    (try (have c20b2 : (t281 == (t283 == 0)) = true := by simpa using c20))
                    clear c20
                    (first | rw [c20b0] | (simp only [i64_w, i32_w]; rw [c20b0]) | skip)
                    by_cases c21 : (!(t267 == t275) || (!(t268 == t276) || (!(t269 == t277) || (!(t270 == t278) || (!(t271 == t279) || (!(t272.toList == t280.toList))))))) = true
                    · rw [if_pos c21] at H
                      have c21b0 : (!(t267 == t275) || (!(t268 == t276) || (!(t269 == t277) || (!(t270 == t278) || (!(t271 == t279) || (!(t272.toList == t280.toList))))))) = true := c21
                      clear c21
                      have H' := Aside0.mk H
                      clear H
                      go_wp2_with (first | ((with_reducible refine gate_callee (f := 11) rfl ?_); refine goesL_ (some 36) rfl rfl Try.func11 (by kernel_rfl) rfl #[.int .i64 t273] rfl (by (try simp only [List.map_toArray, List.map_cons, List.map_nil]); first | done | rfl | (simp only [List.length_drop, List.length_take]; rfl)) ?_; (with_reducible refine (sledgelaw4_num.calls t273 t283 _ A19.out).mono ?_); rintro e w' ⟨rfl, ⟨nd, rfl⟩⟩; refine ⟨_, rfl, ?_⟩; have hnb22 := NB274_265.out; have hnc22 := NB265_274.out; have hnb23 := NB274_282.out; have hnc23 := NB282_274.out; have hcz24_0 : w15.cell? ⟨gb274, 0, none⟩ = some (.int .i64 t267) := (blk_cell BK274.out 0).trans rfl; have hcz24_1 : w15.cell? ⟨gb274, 1, none⟩ = some (.int .i64 t268) := (blk_cell BK274.out 1).trans rfl; have hcz24_2 : w15.cell? ⟨gb274, 2, none⟩ = some (.int .i64 t269) := (blk_cell BK274.out 2).trans rfl; have hcz24_3 : w15.cell? ⟨gb274, 3, none⟩ = some (.int .i64 t270) := (blk_cell BK274.out 3).trans rfl; have hcz24_4 : w15.cell? ⟨gb274, 4, none⟩ = some (.int .i64 t271) := (blk_cell BK274.out 4).trans rfl; have hcz24_5 : w15.cell? ⟨gb274, 5, none⟩ = some (.string t272) := (blk_cell BK274.out 5).trans rfl; have hfz24_0 := blk_frozen BK274.out 0; have hfz24_1 := blk_frozen BK274.out 1; have hfz24_2 := blk_frozen BK274.out 2; have hfz24_3 := blk_frozen BK274.out 3; have hfz24_4 := blk_frozen BK274.out 4; have hfz24_5 := blk_frozen BK274.out 5; have hnb25 := NB282_265.out; have hnc25 := NB265_282.out; have hcz26_0 : w15.cell? ⟨gb282, 0, none⟩ = some (.int .i64 0) := (blk_cell BK282.out 0).trans rfl; have hcz26_1 : w15.cell? ⟨gb282, 1, none⟩ = some (.int .i64 0) := (blk_cell BK282.out 1).trans rfl; have hcz26_2 : w15.cell? ⟨gb282, 2, none⟩ = some (.int .i64 0) := (blk_cell BK282.out 2).trans rfl; have hcz26_3 : w15.cell? ⟨gb282, 3, none⟩ = some (.int .i64 0) := (blk_cell BK282.out 3).trans rfl; have hcz26_4 : w15.cell? ⟨gb282, 4, none⟩ = some (.int .i64 0) := (blk_cell BK282.out 4).trans rfl; have hcz26_5 : w15.cell? ⟨gb282, 5, none⟩ = some (.string (⟨#[]⟩ : ByteArray)) := (blk_cell BK282.out 5).trans rfl; have hfz26_0 := blk_frozen BK282.out 0; have hfz26_1 := blk_frozen BK282.out 1; have hfz26_2 := blk_frozen BK282.out 2; have hfz26_3 := blk_frozen BK282.out 3; have hfz26_4 := blk_frozen BK282.out 4; have hfz26_5 := blk_frozen BK282.out 5))
                      go_meet
                      case rel => exact ⟨_, (true), (by first | rfl | (simp; done) | (simp [*]; done) | (congr 1; rw [Bool.eq_iff_iff]; simp; done)), H', ⟨by have := HK1.out; have := HK2.out; first | omega | exact Nat.le_refl _⟩, ⟨by (with_reducible repeat (first | refine blk_drewN ?_ _ | refine blk_drew ?_ | refine blk_alloc ?_ _)); refine blk_far ?_ NB265_282.out _; (with_reducible repeat (first | refine blk_drewN ?_ _ | refine blk_drew ?_ | refine blk_alloc ?_ _)); refine blk_far ?_ NB265_282.out _; (with_reducible repeat (first | refine blk_drewN ?_ _ | refine blk_drew ?_ | refine blk_alloc ?_ _)); refine blk_far ?_ NB265_282.out _; (with_reducible repeat (first | refine blk_drewN ?_ _ | refine blk_drew ?_ | refine blk_alloc ?_ _)); refine blk_far ?_ NB265_282.out _; (with_reducible repeat (first | refine blk_drewN ?_ _ | refine blk_drew ?_ | refine blk_alloc ?_ _)); refine blk_far ?_ NB265_282.out _; (with_reducible repeat (first | refine blk_drewN ?_ _ | refine blk_drew ?_ | refine blk_alloc ?_ _)); refine blk_far ?_ NB265_282.out _; (with_reducible repeat (first | refine blk_drewN ?_ _ | refine blk_drew ?_ | refine blk_alloc ?_ _)); exact BK265.out⟩, ⟨by (with_reducible repeat (first | refine blk_drewN ?_ _ | refine blk_drew ?_ | refine blk_alloc ?_ _)); refine blk_far ?_ NB274_282.out _; (with_reducible repeat (first | refine blk_drewN ?_ _ | refine blk_drew ?_ | refine blk_alloc ?_ _)); refine blk_far ?_ NB274_282.out _; (with_reducible repeat (first | refine blk_drewN ?_ _ | refine blk_drew ?_ | refine blk_alloc ?_ _)); refine blk_far ?_ NB274_282.out _; (with_reducible repeat (first | refine blk_drewN ?_ _ | refine blk_drew ?_ | refine blk_alloc ?_ _)); refine blk_far ?_ NB274_282.out _; (with_reducible repeat (first | refine blk_drewN ?_ _ | refine blk_drew ?_ | refine blk_alloc ?_ _)); refine blk_far ?_ NB274_282.out _; (with_reducible repeat (first | refine blk_drewN ?_ _ | refine blk_drew ?_ | refine blk_alloc ?_ _)); refine blk_far ?_ NB274_282.out _; (with_reducible repeat (first | refine blk_drewN ?_ _ | refine blk_drew ?_ | refine blk_alloc ?_ _)); exact BK274.out⟩, ⟨by (with_reducible repeat (first | refine blk_drewN ?_ _ | refine blk_drew ?_ | refine blk_alloc ?_ _)); refine blk_put (cs := #[.int .i64 t275, .int .i64 t276, .int .i64 t277, .int .i64 t278, .int .i64 t279, .string (⟨#[]⟩ : ByteArray)]) ?_ 5 _ rfl; (with_reducible repeat (first | refine blk_drewN ?_ _ | refine blk_drew ?_ | refine blk_alloc ?_ _)); refine blk_put (cs := #[.int .i64 t275, .int .i64 t276, .int .i64 t277, .int .i64 t278, .int .i64 0, .string (⟨#[]⟩ : ByteArray)]) ?_ 4 _ rfl; (with_reducible repeat (first | refine blk_drewN ?_ _ | refine blk_drew ?_ | refine blk_alloc ?_ _)); refine blk_put (cs := #[.int .i64 t275, .int .i64 t276, .int .i64 t277, .int .i64 0, .int .i64 0, .string (⟨#[]⟩ : ByteArray)]) ?_ 3 _ rfl; (with_reducible repeat (first | refine blk_drewN ?_ _ | refine blk_drew ?_ | refine blk_alloc ?_ _)); refine blk_put (cs := #[.int .i64 t275, .int .i64 t276, .int .i64 0, .int .i64 0, .int .i64 0, .string (⟨#[]⟩ : ByteArray)]) ?_ 2 _ rfl; (with_reducible repeat (first | refine blk_drewN ?_ _ | refine blk_drew ?_ | refine blk_alloc ?_ _)); refine blk_put (cs := #[.int .i64 t275, .int .i64 0, .int .i64 0, .int .i64 0, .int .i64 0, .string (⟨#[]⟩ : ByteArray)]) ?_ 1 _ rfl; (with_reducible repeat (first | refine blk_drewN ?_ _ | refine blk_drew ?_ | refine blk_alloc ?_ _)); refine blk_put (cs := #[.int .i64 0, .int .i64 0, .int .i64 0, .int .i64 0, .int .i64 0, .string (⟨#[]⟩ : ByteArray)]) ?_ 0 _ rfl; (with_reducible repeat (first | refine blk_drewN ?_ _ | refine blk_drew ?_ | refine blk_alloc ?_ _)); exact BK282.out⟩, ⟨by repeat (first | (with_reducible first | exact HB.out | apply below_alloc | apply pw_below_drewN | apply below_drew1 | refine below_set ?_ GE265.out | refine below_set ?_ GE274.out | refine below_set ?_ GE282.out) | exact HB.out)⟩⟩
                    · rw [if_neg c21] at H
                      have c21b0 : (!(t267 == t275) || (!(t268 == t276) || (!(t269 == t277) || (!(t270 == t278) || (!(t271 == t279) || (!(t272.toList == t280.toList))))))) = false := by simpa using c21
                      clear c21
                      by_cases c27 : x3_1 > 33
                      · rw [if_pos c27] at H
                        have c27b0 : decide (33 < x3_1) = true := decide_eq_true c27
                        clear c27
                        have H' := Aside0.mk H
                        clear H
                        go_wp2_with (first | ((with_reducible refine gate_callee (f := 11) rfl ?_); refine goesL_ (some 36) rfl rfl Try.func11 (by kernel_rfl) rfl #[.int .i64 t273] rfl (by (try simp only [List.map_toArray, List.map_cons, List.map_nil]); first | done | rfl | (simp only [List.length_drop, List.length_take]; rfl)) ?_; (with_reducible refine (sledgelaw4_num.calls t273 t283 _ A19.out).mono ?_); rintro e w' ⟨rfl, ⟨nd, rfl⟩⟩; refine ⟨_, rfl, ?_⟩; have hnb28 := NB274_265.out; have hnc28 := NB265_274.out; have hnb29 := NB274_282.out; have hnc29 := NB282_274.out; have hcz30_0 : w15.cell? ⟨gb274, 0, none⟩ = some (.int .i64 t267) := (blk_cell BK274.out 0).trans rfl; have hcz30_1 : w15.cell? ⟨gb274, 1, none⟩ = some (.int .i64 t268) := (blk_cell BK274.out 1).trans rfl; have hcz30_2 : w15.cell? ⟨gb274, 2, none⟩ = some (.int .i64 t269) := (blk_cell BK274.out 2).trans rfl; have hcz30_3 : w15.cell? ⟨gb274, 3, none⟩ = some (.int .i64 t270) := (blk_cell BK274.out 3).trans rfl; have hcz30_4 : w15.cell? ⟨gb274, 4, none⟩ = some (.int .i64 t271) := (blk_cell BK274.out 4).trans rfl; have hcz30_5 : w15.cell? ⟨gb274, 5, none⟩ = some (.string t272) := (blk_cell BK274.out 5).trans rfl; have hfz30_0 := blk_frozen BK274.out 0; have hfz30_1 := blk_frozen BK274.out 1; have hfz30_2 := blk_frozen BK274.out 2; have hfz30_3 := blk_frozen BK274.out 3; have hfz30_4 := blk_frozen BK274.out 4; have hfz30_5 := blk_frozen BK274.out 5; have hnb31 := NB282_265.out; have hnc31 := NB265_282.out; have hcz32_0 : w15.cell? ⟨gb282, 0, none⟩ = some (.int .i64 0) := (blk_cell BK282.out 0).trans rfl; have hcz32_1 : w15.cell? ⟨gb282, 1, none⟩ = some (.int .i64 0) := (blk_cell BK282.out 1).trans rfl; have hcz32_2 : w15.cell? ⟨gb282, 2, none⟩ = some (.int .i64 0) := (blk_cell BK282.out 2).trans rfl; have hcz32_3 : w15.cell? ⟨gb282, 3, none⟩ = some (.int .i64 0) := (blk_cell BK282.out 3).trans rfl; have hcz32_4 : w15.cell? ⟨gb282, 4, none⟩ = some (.int .i64 0) := (blk_cell BK282.out 4).trans rfl; have hcz32_5 : w15.cell? ⟨gb282, 5, none⟩ = some (.string (⟨#[]⟩ : ByteArray)) := (blk_cell BK282.out 5).trans rfl; have hfz32_0 := blk_frozen BK282.out 0; have hfz32_1 := blk_frozen BK282.out 1; have hfz32_2 := blk_frozen BK282.out 2; have hfz32_3 := blk_frozen BK282.out 3; have hfz32_4 := blk_frozen BK282.out 4; have hfz32_5 := blk_frozen BK282.out 5))
                        go_meet
                        case rel => exact ⟨_, (t281), (by first | rfl | (simp; done) | (simp [*]; done) | (congr 1; rw [Bool.eq_iff_iff]; simp; done)), H', ⟨by have := HK1.out; have := HK2.out; first | omega | exact Nat.le_refl _⟩, ⟨by (with_reducible repeat (first | refine blk_drewN ?_ _ | refine blk_drew ?_ | refine blk_alloc ?_ _)); refine blk_far ?_ NB265_282.out _; (with_reducible repeat (first | refine blk_drewN ?_ _ | refine blk_drew ?_ | refine blk_alloc ?_ _)); refine blk_far ?_ NB265_282.out _; (with_reducible repeat (first | refine blk_drewN ?_ _ | refine blk_drew ?_ | refine blk_alloc ?_ _)); refine blk_far ?_ NB265_282.out _; (with_reducible repeat (first | refine blk_drewN ?_ _ | refine blk_drew ?_ | refine blk_alloc ?_ _)); refine blk_far ?_ NB265_282.out _; (with_reducible repeat (first | refine blk_drewN ?_ _ | refine blk_drew ?_ | refine blk_alloc ?_ _)); refine blk_far ?_ NB265_282.out _; (with_reducible repeat (first | refine blk_drewN ?_ _ | refine blk_drew ?_ | refine blk_alloc ?_ _)); refine blk_far ?_ NB265_282.out _; (with_reducible repeat (first | refine blk_drewN ?_ _ | refine blk_drew ?_ | refine blk_alloc ?_ _)); exact BK265.out⟩, ⟨by (with_reducible repeat (first | refine blk_drewN ?_ _ | refine blk_drew ?_ | refine blk_alloc ?_ _)); refine blk_far ?_ NB274_282.out _; (with_reducible repeat (first | refine blk_drewN ?_ _ | refine blk_drew ?_ | refine blk_alloc ?_ _)); refine blk_far ?_ NB274_282.out _; (with_reducible repeat (first | refine blk_drewN ?_ _ | refine blk_drew ?_ | refine blk_alloc ?_ _)); refine blk_far ?_ NB274_282.out _; (with_reducible repeat (first | refine blk_drewN ?_ _ | refine blk_drew ?_ | refine blk_alloc ?_ _)); refine blk_far ?_ NB274_282.out _; (with_reducible repeat (first | refine blk_drewN ?_ _ | refine blk_drew ?_ | refine blk_alloc ?_ _)); refine blk_far ?_ NB274_282.out _; (with_reducible repeat (first | refine blk_drewN ?_ _ | refine blk_drew ?_ | refine blk_alloc ?_ _)); refine blk_far ?_ NB274_282.out _; (with_reducible repeat (first | refine blk_drewN ?_ _ | refine blk_drew ?_ | refine blk_alloc ?_ _)); exact BK274.out⟩, ⟨by (with_reducible repeat (first | refine blk_drewN ?_ _ | refine blk_drew ?_ | refine blk_alloc ?_ _)); refine blk_put (cs := #[.int .i64 t275, .int .i64 t276, .int .i64 t277, .int .i64 t278, .int .i64 t279, .string (⟨#[]⟩ : ByteArray)]) ?_ 5 _ rfl; (with_reducible repeat (first | refine blk_drewN ?_ _ | refine blk_drew ?_ | refine blk_alloc ?_ _)); refine blk_put (cs := #[.int .i64 t275, .int .i64 t276, .int .i64 t277, .int .i64 t278, .int .i64 0, .string (⟨#[]⟩ : ByteArray)]) ?_ 4 _ rfl; (with_reducible repeat (first | refine blk_drewN ?_ _ | refine blk_drew ?_ | refine blk_alloc ?_ _)); refine blk_put (cs := #[.int .i64 t275, .int .i64 t276, .int .i64 t277, .int .i64 0, .int .i64 0, .string (⟨#[]⟩ : ByteArray)]) ?_ 3 _ rfl; (with_reducible repeat (first | refine blk_drewN ?_ _ | refine blk_drew ?_ | refine blk_alloc ?_ _)); refine blk_put (cs := #[.int .i64 t275, .int .i64 t276, .int .i64 0, .int .i64 0, .int .i64 0, .string (⟨#[]⟩ : ByteArray)]) ?_ 2 _ rfl; (with_reducible repeat (first | refine blk_drewN ?_ _ | refine blk_drew ?_ | refine blk_alloc ?_ _)); refine blk_put (cs := #[.int .i64 t275, .int .i64 0, .int .i64 0, .int .i64 0, .int .i64 0, .string (⟨#[]⟩ : ByteArray)]) ?_ 1 _ rfl; (with_reducible repeat (first | refine blk_drewN ?_ _ | refine blk_drew ?_ | refine blk_alloc ?_ _)); refine blk_put (cs := #[.int .i64 0, .int .i64 0, .int .i64 0, .int .i64 0, .int .i64 0, .string (⟨#[]⟩ : ByteArray)]) ?_ 0 _ rfl; (with_reducible repeat (first | refine blk_drewN ?_ _ | refine blk_drew ?_ | refine blk_alloc ?_ _)); exact BK282.out⟩, ⟨by repeat (first | (with_reducible first | exact HB.out | apply below_alloc | apply pw_below_drewN | apply below_drew1 | refine below_set ?_ GE265.out | refine below_set ?_ GE274.out | refine below_set ?_ GE282.out) | exact HB.out)⟩⟩
                      · rw [if_neg c27] at H
                        have c27b0 : decide (33 < x3_1) = false := decide_eq_false c27
                        clear c27
                        have H' := Aside0.mk H
                        clear H
                        go_wp2_with (first | ((with_reducible refine gate_callee (f := 11) rfl ?_); refine goesL_ (some 36) rfl rfl Try.func11 (by kernel_rfl) rfl #[.int .i64 t273] rfl (by (try simp only [List.map_toArray, List.map_cons, List.map_nil]); first | done | rfl | (simp only [List.length_drop, List.length_take]; rfl)) ?_; (with_reducible refine (sledgelaw4_num.calls t273 t283 _ A19.out).mono ?_); rintro e w' ⟨rfl, ⟨nd, rfl⟩⟩; refine ⟨_, rfl, ?_⟩; have hnb33 := NB274_265.out; have hnc33 := NB265_274.out; have hnb34 := NB274_282.out; have hnc34 := NB282_274.out; have hcz35_0 : w15.cell? ⟨gb274, 0, none⟩ = some (.int .i64 t267) := (blk_cell BK274.out 0).trans rfl; have hcz35_1 : w15.cell? ⟨gb274, 1, none⟩ = some (.int .i64 t268) := (blk_cell BK274.out 1).trans rfl; have hcz35_2 : w15.cell? ⟨gb274, 2, none⟩ = some (.int .i64 t269) := (blk_cell BK274.out 2).trans rfl; have hcz35_3 : w15.cell? ⟨gb274, 3, none⟩ = some (.int .i64 t270) := (blk_cell BK274.out 3).trans rfl; have hcz35_4 : w15.cell? ⟨gb274, 4, none⟩ = some (.int .i64 t271) := (blk_cell BK274.out 4).trans rfl; have hcz35_5 : w15.cell? ⟨gb274, 5, none⟩ = some (.string t272) := (blk_cell BK274.out 5).trans rfl; have hfz35_0 := blk_frozen BK274.out 0; have hfz35_1 := blk_frozen BK274.out 1; have hfz35_2 := blk_frozen BK274.out 2; have hfz35_3 := blk_frozen BK274.out 3; have hfz35_4 := blk_frozen BK274.out 4; have hfz35_5 := blk_frozen BK274.out 5; have hnb36 := NB282_265.out; have hnc36 := NB265_282.out; have hcz37_0 : w15.cell? ⟨gb282, 0, none⟩ = some (.int .i64 0) := (blk_cell BK282.out 0).trans rfl; have hcz37_1 : w15.cell? ⟨gb282, 1, none⟩ = some (.int .i64 0) := (blk_cell BK282.out 1).trans rfl; have hcz37_2 : w15.cell? ⟨gb282, 2, none⟩ = some (.int .i64 0) := (blk_cell BK282.out 2).trans rfl; have hcz37_3 : w15.cell? ⟨gb282, 3, none⟩ = some (.int .i64 0) := (blk_cell BK282.out 3).trans rfl; have hcz37_4 : w15.cell? ⟨gb282, 4, none⟩ = some (.int .i64 0) := (blk_cell BK282.out 4).trans rfl; have hcz37_5 : w15.cell? ⟨gb282, 5, none⟩ = some (.string (⟨#[]⟩ : ByteArray)) := (blk_cell BK282.out 5).trans rfl; have hfz37_0 := blk_frozen BK282.out 0; have hfz37_1 := blk_frozen BK282.out 1; have hfz37_2 := blk_frozen BK282.out 2; have hfz37_3 := blk_frozen BK282.out 3; have hfz37_4 := blk_frozen BK282.out 4; have hfz37_5 := blk_frozen BK282.out 5))
                        go_meet
                        case rel => exact ⟨_, (false), (by first | rfl | (simp; done) | (simp [*]; done) | (congr 1; rw [Bool.eq_iff_iff]; simp; done)), H', ⟨by have := HK1.out; have := HK2.out; first | omega | exact Nat.le_refl _⟩, ⟨by (with_reducible repeat (first | refine blk_drewN ?_ _ | refine blk_drew ?_ | refine blk_alloc ?_ _)); refine blk_far ?_ NB265_282.out _; (with_reducible repeat (first | refine blk_drewN ?_ _ | refine blk_drew ?_ | refine blk_alloc ?_ _)); refine blk_far ?_ NB265_282.out _; (with_reducible repeat (first | refine blk_drewN ?_ _ | refine blk_drew ?_ | refine blk_alloc ?_ _)); refine blk_far ?_ NB265_282.out _; (with_reducible repeat (first | refine blk_drewN ?_ _ | refine blk_drew ?_ | refine blk_alloc ?_ _)); refine blk_far ?_ NB265_282.out _; (with_reducible repeat (first | refine blk_drewN ?_ _ | refine blk_drew ?_ | refine blk_alloc ?_ _)); refine blk_far ?_ NB265_282.out _; (with_reducible repeat (first | refine blk_drewN ?_ _ | refine blk_drew ?_ | refine blk_alloc ?_ _)); refine blk_far ?_ NB265_282.out _; (with_reducible repeat (first | refine blk_drewN ?_ _ | refine blk_drew ?_ | refine blk_alloc ?_ _)); exact BK265.out⟩, ⟨by (with_reducible repeat (first | refine blk_drewN ?_ _ | refine blk_drew ?_ | refine blk_alloc ?_ _)); refine blk_far ?_ NB274_282.out _; (with_reducible repeat (first | refine blk_drewN ?_ _ | refine blk_drew ?_ | refine blk_alloc ?_ _)); refine blk_far ?_ NB274_282.out _; (with_reducible repeat (first | refine blk_drewN ?_ _ | refine blk_drew ?_ | refine blk_alloc ?_ _)); refine blk_far ?_ NB274_282.out _; (with_reducible repeat (first | refine blk_drewN ?_ _ | refine blk_drew ?_ | refine blk_alloc ?_ _)); refine blk_far ?_ NB274_282.out _; (with_reducible repeat (first | refine blk_drewN ?_ _ | refine blk_drew ?_ | refine blk_alloc ?_ _)); refine blk_far ?_ NB274_282.out _; (with_reducible repeat (first | refine blk_drewN ?_ _ | refine blk_drew ?_ | refine blk_alloc ?_ _)); refine blk_far ?_ NB274_282.out _; (with_reducible repeat (first | refine blk_drewN ?_ _ | refine blk_drew ?_ | refine blk_alloc ?_ _)); exact BK274.out⟩, ⟨by (with_reducible repeat (first | refine blk_drewN ?_ _ | refine blk_drew ?_ | refine blk_alloc ?_ _)); refine blk_put (cs := #[.int .i64 t275, .int .i64 t276, .int .i64 t277, .int .i64 t278, .int .i64 t279, .string (⟨#[]⟩ : ByteArray)]) ?_ 5 _ rfl; (with_reducible repeat (first | refine blk_drewN ?_ _ | refine blk_drew ?_ | refine blk_alloc ?_ _)); refine blk_put (cs := #[.int .i64 t275, .int .i64 t276, .int .i64 t277, .int .i64 t278, .int .i64 0, .string (⟨#[]⟩ : ByteArray)]) ?_ 4 _ rfl; (with_reducible repeat (first | refine blk_drewN ?_ _ | refine blk_drew ?_ | refine blk_alloc ?_ _)); refine blk_put (cs := #[.int .i64 t275, .int .i64 t276, .int .i64 t277, .int .i64 0, .int .i64 0, .string (⟨#[]⟩ : ByteArray)]) ?_ 3 _ rfl; (with_reducible repeat (first | refine blk_drewN ?_ _ | refine blk_drew ?_ | refine blk_alloc ?_ _)); refine blk_put (cs := #[.int .i64 t275, .int .i64 t276, .int .i64 0, .int .i64 0, .int .i64 0, .string (⟨#[]⟩ : ByteArray)]) ?_ 2 _ rfl; (with_reducible repeat (first | refine blk_drewN ?_ _ | refine blk_drew ?_ | refine blk_alloc ?_ _)); refine blk_put (cs := #[.int .i64 t275, .int .i64 0, .int .i64 0, .int .i64 0, .int .i64 0, .string (⟨#[]⟩ : ByteArray)]) ?_ 1 _ rfl; (with_reducible repeat (first | refine blk_drewN ?_ _ | refine blk_drew ?_ | refine blk_alloc ?_ _)); refine blk_put (cs := #[.int .i64 0, .int .i64 0, .int .i64 0, .int .i64 0, .int .i64 0, .string (⟨#[]⟩ : ByteArray)]) ?_ 0 _ rfl; (with_reducible repeat (first | refine blk_drewN ?_ _ | refine blk_drew ?_ | refine blk_alloc ?_ _)); exact BK282.out⟩, ⟨by repeat (first | (with_reducible first | exact HB.out | apply below_alloc | apply pw_below_drewN | apply below_drew1 | refine below_set ?_ GE265.out | refine below_set ?_ GE274.out | refine below_set ?_ GE282.out) | exact HB.out)⟩⟩
                case rest =>
                  clear HC9
                  try clear c1
                  try clear c2
                  try clear p2
                  try clear c3
                  try clear c3b0
                  try clear c4
                  try clear c4b0
                  try clear c5
                  try clear c5b0
                  try clear c5b1
                  try clear c11
                  try clear c12
                  try clear c13
                  try clear c16
                  try clear c17
                  try clear c20
                  try clear c20b0
                  try clear c20b1
                  try clear c20b2
                  try clear c21
                  try clear c21b0
                  try clear c22
                  try clear c23
                  try clear c25
                  try clear c27
                  try clear c27b0
                  try clear c28
                  try clear c29
                  try clear c31
                  try clear c33
                  try clear c34
                  try clear c36
                  try clear hcz13_0
                  try clear hcz13_1
                  try clear hcz13_2
                  try clear hcz13_3
                  try clear hcz13_4
                  try clear hcz13_5
                  try clear hcz18_0
                  try clear hcz18_1
                  try clear hcz18_2
                  try clear hcz18_3
                  try clear hcz18_4
                  try clear hcz18_5
                  try clear hcz24_0
                  try clear hcz24_1
                  try clear hcz24_2
                  try clear hcz24_3
                  try clear hcz24_4
                  try clear hcz24_5
                  try clear hcz26_0
                  try clear hcz26_1
                  try clear hcz26_2
                  try clear hcz26_3
                  try clear hcz26_4
                  try clear hcz26_5
                  try clear hcz30_0
                  try clear hcz30_1
                  try clear hcz30_2
                  try clear hcz30_3
                  try clear hcz30_4
                  try clear hcz30_5
                  try clear hcz32_0
                  try clear hcz32_1
                  try clear hcz32_2
                  try clear hcz32_3
                  try clear hcz32_4
                  try clear hcz32_5
                  try clear hcz35_0
                  try clear hcz35_1
                  try clear hcz35_2
                  try clear hcz35_3
                  try clear hcz35_4
                  try clear hcz35_5
                  try clear hcz37_0
                  try clear hcz37_1
                  try clear hcz37_2
                  try clear hcz37_3
                  try clear hcz37_4
                  try clear hcz37_5
                  try clear hfz13_0
                  try clear hfz13_1
                  try clear hfz13_2
                  try clear hfz13_3
                  try clear hfz13_4
                  try clear hfz13_5
                  try clear hfz18_0
                  try clear hfz18_1
                  try clear hfz18_2
                  try clear hfz18_3
                  try clear hfz18_4
                  try clear hfz18_5
                  try clear hfz24_0
                  try clear hfz24_1
                  try clear hfz24_2
                  try clear hfz24_3
                  try clear hfz24_4
                  try clear hfz24_5
                  try clear hfz26_0
                  try clear hfz26_1
                  try clear hfz26_2
                  try clear hfz26_3
                  try clear hfz26_4
                  try clear hfz26_5
                  try clear hfz30_0
                  try clear hfz30_1
                  try clear hfz30_2
                  try clear hfz30_3
                  try clear hfz30_4
                  try clear hfz30_5
                  try clear hfz32_0
                  try clear hfz32_1
                  try clear hfz32_2
                  try clear hfz32_3
                  try clear hfz32_4
                  try clear hfz32_5
                  try clear hfz35_0
                  try clear hfz35_1
                  try clear hfz35_2
                  try clear hfz35_3
                  try clear hfz35_4
                  try clear hfz35_5
                  try clear hfz37_0
                  try clear hfz37_1
                  try clear hfz37_2
                  try clear hfz37_3
                  try clear hfz37_4
                  try clear hfz37_5
                  try clear p2
                  obtain ⟨kq, x50_8, rfl, HA, HJ8, BK265, BK274, BK282, HB⟩ := hcut
                  cases kq with
                  | zero => exact absurd HA.out (by simp [sledgelaw4_BitsNone.j2])
                  | succ kj8 =>
                    have H := HA.out
                    clear HA
                    simp only [sledgelaw4_BitsNone.j2] at H
                    by_cases c38 : x50_8 = true
                    · subst c38
                      have H1 : (some false) = some r := by rw [if_pos rfl] at H; exact H
                      clear H
                      have H := H1
                      clear H1
                      obtain rfl := Option.some.inj H
                      go_wp2
                      go_ret
                      exact ⟨by first | rfl | (simp [errW_none, errW_some] <;> rfl) | (simp only [← hji6]; first | rfl | (simp [errW_none, errW_some] <;> rfl)) | (simp [*, errW_none, errW_some] <;> rfl), by repeat (first | (with_reducible first | exact HB.out | apply below_alloc | apply pw_below_drewN | apply below_drew1 | refine below_set ?_ GE265.out | refine below_set ?_ GE274.out | refine below_set ?_ GE282.out) | exact HB.out)⟩
                    · replace c38 := Bool.eq_false_iff.mpr c38
                      subst c38
                      have H1 : (sledgelaw4_BitsNone.l1 kj8 x3_1 (wrap64 (x4_2 + 1))) = some r := by rw [if_neg (show ¬ (false = true) by decide)] at H; exact H
                      clear H
                      have H := H1
                      clear H1
                      have H' := Aside0.mk H
                      clear H
                      go_wp2
                      go_roundg kj8
                      case measure => have := HK1.out; have := HK2.out; have := HJ8.out; omega
                      case rel => exact ⟨(wrap64 (x4_2 + 1)), (by first | rfl | (simp; done) | (simp [*]; done) | (congr 1; rw [Bool.eq_iff_iff]; simp; done)), H', ⟨by have := HK1.out; have := HK2.out; have := HJ8.out; omega⟩, ⟨by (with_reducible repeat (first | refine blk_drewN ?_ _ | refine blk_drew ?_ | refine blk_alloc ?_ _)); exact BK265.out⟩, ⟨by repeat (first | (with_reducible first | exact HB.out | apply below_alloc | apply pw_below_drewN | apply below_drew1 | refine below_set ?_ GE265.out | refine below_set ?_ GE274.out | refine below_set ?_ GE282.out) | exact HB.out)⟩⟩
              · rw [if_neg c5] at H
                exact absurd H (by simp)
            · rw [if_neg c4] at H
              have c4b0 : decide (x4_2 < 26) = false := decide_eq_false c4
              clear c4
              have H' := Aside0.mk H
              clear H
              go_wp2
              go_roundg k2
              case measure => have := HK1.out; have := HK2.out; omega
              case rel => exact ⟨(wrap64 (x3_1 + 1)), (by first | rfl | (simp; done) | (simp [*]; done) | (congr 1; rw [Bool.eq_iff_iff]; simp; done)), H', ⟨by have := HK1.out; have := HK2.out; omega⟩, ⟨by (with_reducible repeat (first | refine blk_drewN ?_ _ | refine blk_drew ?_ | refine blk_alloc ?_ _)); exact BK265.out⟩, ⟨by repeat (first | (with_reducible first | exact HB.out | apply below_alloc | apply pw_below_drewN | apply below_drew1 | refine below_set ?_ GE265.out) | exact HB.out)⟩⟩
      · rw [if_neg c3] at H
        have c3b0 : decide (x3_1 < 64) = false := decide_eq_false c3
        clear c3
        replace H := Option.bind_eq_some_iff.mp H
        obtain ⟨t266, A390, H⟩ := H
        replace H : (some t266) = some r := H
        have A39 := Aside0.mk A390
        clear A390
        obtain rfl := Option.some.inj H
        have hcz40_0 : wr.cell? ⟨gb265, 0, none⟩ = some (.slice A0_0 l0_0.length c0_0) := (blk_cell BK265.out 0).trans rfl
        have hcz40_1 : wr.cell? ⟨gb265, 1, none⟩ = some (.slice A0_1 l0_1.length c0_1) := (blk_cell BK265.out 1).trans rfl
        have hcz40_2 : wr.cell? ⟨gb265, 2, none⟩ = some (.slice A0_2 l0_2.length c0_2) := (blk_cell BK265.out 2).trans rfl
        have hcz40_3 : wr.cell? ⟨gb265, 3, none⟩ = some (.slice A0_3 l0_3.length c0_3) := (blk_cell BK265.out 3).trans rfl
        have hcz40_4 : wr.cell? ⟨gb265, 4, none⟩ = some (.slice A0_4 l0_4.length c0_4) := (blk_cell BK265.out 4).trans rfl
        have hfz40_0 := blk_frozen BK265.out 0
        have hfz40_1 := blk_frozen BK265.out 1
        have hfz40_2 := blk_frozen BK265.out 2
        have hfz40_3 := blk_frozen BK265.out 3
        have hfz40_4 := blk_frozen BK265.out 4
        go_wp2_with (first | (go_at_call 14; (with_reducible refine (sledgelaw4_wakes.calls k1  t266 _ A39.out).mono ?_); rintro e w41 ⟨rfl, hb⟩; have n0_ := Aside0.mk (blk_below (g := gb265) (o := .cells #[.slice A0_0 l0_0.length c0_0, .slice A0_1 l0_1.length c0_1, .slice A0_2 l0_2.length c0_2, .slice A0_3 l0_3.length c0_3, .slice A0_4 l0_4.length c0_4] 32 (0, 0)) (by (with_reducible repeat (first | refine blk_drewN ?_ _ | refine blk_drew ?_ | refine blk_alloc ?_ _)); exact BK265.out) hb); have n1_ := Aside0.mk (below_step (by repeat (first | (with_reducible first | exact HB.out | apply below_alloc | apply pw_below_drewN | apply below_drew1 | refine below_set ?_ GE265.out) | exact HB.out)) hb); clear BK265; clear HB; have BK265 := n0_; have HB := n1_; clear n0_ n1_; (try clear hb); (try clear hb2); (try clear hk); (try clear hi)))
        go_ret
        exact ⟨by first | rfl | (simp [errW_none, errW_some] <;> rfl) | (simp [*, errW_none, errW_some] <;> rfl), by repeat (first | (with_reducible first | exact HB.out | apply below_alloc | apply pw_below_drewN | apply below_drew1 | refine below_set ?_ GE265.out) | exact HB.out)⟩

/-! ### isa_Ends: function 53 -/
def isa_Ends.f (a0 : Int) : Option (Bool) := if a0 ≥ 28 then (some (decide (a0 ≤ 33))) else (some false)
set_option maxHeartbeats 8000000 in
set_option maxRecDepth 100000 in
theorem isa_Ends.calls (a0 : Int) (r : Bool) (w : World) (h : isa_Ends.f a0 = some r) :
    Calls Try.prog 53 #[.int .i64 a0] w fun e w' => e = .returned (.bool r) ∧ Drawn0 w w' := by
  have H : (if a0 ≥ 28 then (some (decide (a0 ≤ 33))) else (some false)) = some r := h
  clear h
  by_cases c2 : a0 ≥ 28
  · rw [if_pos c2] at H
    have c2b0 : decide (28 ≤ a0) = true := decide_eq_true c2
    clear c2
    obtain rfl := Option.some.inj H
    go_enter Try.func53, Try.ntmps53
    go_wp2
    go_ret
    exact ⟨by first | rfl | (simp; done) | (simp [*]; done) | (congr 1; rw [Bool.eq_iff_iff]; simp; done), by repeat (first | exact Drawn0.refl _ | apply Drawn0.step)⟩
  · rw [if_neg c2] at H
    have c2b0 : decide (28 ≤ a0) = false := decide_eq_false c2
    clear c2
    obtain rfl := Option.some.inj H
    go_enter Try.func53, Try.ntmps53
    go_wp2
    go_ret
    exact ⟨by first | rfl | (simp; done) | (simp [*]; done) | (congr 1; rw [Bool.eq_iff_iff]; simp; done), by repeat (first | exact Drawn0.refl _ | apply Drawn0.step)⟩

end Go.Proofs.Ytfnchdlgkkdegaa.PAll
