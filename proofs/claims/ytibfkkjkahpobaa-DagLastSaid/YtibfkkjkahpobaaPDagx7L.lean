-- the texts that this claim needs, out of this session's and its print's (wip/shrink.py)
import Derived.Test.YtibfkkjkahpobaaPDagx0L
import Derived.Test.YtibfkkjkahpobaaPDagx6L
namespace Go.Proofs.Ytibfkkjkahpobaa.PDag
open Go.RowKit Go.Proofs.YtibfkkjkahpobaaW.PrintWords Go.Proofs.YtibfkkjkahpobaaW.PrintLast Go.Proofs.YtibfkkjkahpobaaW.PrintMore
attribute [local go_sem] max2_int min2_int max_two min_two max_three min_three max_four min_four   -- for this text's walks alone
set_option linter.unusedVariables false
set_option linter.unusedSimpArgs false
def isa_Ends.f (a0 : Int) : Option (Bool) := if a0 ≥ 28 then (some (decide (a0 ≤ 33))) else (some false)
set_option maxHeartbeats 8000000 in
set_option maxRecDepth 100000 in
theorem isa_Ends.calls (a0 : Int) (r : Bool) (w : World) (h : isa_Ends.f a0 = some r) :
    Calls Try.prog 64 #[.int .i64 a0] w fun e w' => e = .returned (.bool r) ∧ Dr_ w w' := by
 have H : (if a0 ≥ 28 then (some (decide (a0 ≤ 33))) else (some false)) = some r := h
 clear h
 by_cases c2 : a0 ≥ 28
 ·rw [if_pos c2] at H
  have c2b0 : decide (28 ≤ a0) = true := decide_eq_true c2
  clear c2
  obtain rfl := Option.some.inj H
  go_enter Try.func64, Try.ntmps64
  go_wp2
  go_ret
  exact ⟨by first | rfl | (simp; done) | (simp [*]; done) | (simp [wrap64]; done) | (congr 1; rw [Bool.eq_iff_iff]; simp; done), by repeat (first | exact Dr_.refl _ | apply Dr_.step)⟩
 rw [if_neg c2] at H
 have c2b0 : decide (28 ≤ a0) = false := decide_eq_false c2
 clear c2
 obtain rfl := Option.some.inj H
 go_enter Try.func64, Try.ntmps64
 go_wp2
 go_ret
 exact ⟨by first | rfl | (simp; done) | (simp [*]; done) | (simp [wrap64]; done) | (congr 1; rw [Bool.eq_iff_iff]; simp; done), by repeat (first | exact Dr_.refl _ | apply Dr_.step)⟩
def block_Plain.f (k : Nat) (a0_0 : Int) (a0_1 : Int) (a0_2 : Int) (a0_3 : Int) (a0_4 : Int) (a0_5 : ByteArray) : Option (Bool) := (isa_IsIns.f k a0_0 a0_1 a0_2 a0_3 a0_4 a0_5).bind fun t128 => (if t128 = true then ((isa_Ends.f a0_0).bind fun t129 => (if t129 = true then (some false) else (some (a0_0 != 0)))) else (some false))
theorem block_Plain.mono : ∀ a0 a1 a2 a3 a4 a5 k, LeO (block_Plain.f k a0 a1 a2 a3 a4 a5) (block_Plain.f (k + 1) a0 a1 a2 a3 a4 a5) := by
 intro a0 a1 a2 a3 a4 a5 k
 unfold block_Plain.f
 repeat' first
  | (with_reducible exact isa_IsIns.mono _ _ _ _ _ _ _)
  | (with_reducible exact LeO.refl _)
  | (with_reducible exact LeO.none _)
  | (with_reducible refine LeO.ite ?_ ?_)
  | (with_reducible refine LeO.bind ?_ (fun _ => ?_))
  | exact LeO.none _
  | refine LeO.ite ?_ ?_
  | refine LeO.bind ?_ (fun _ => ?_)
set_option maxHeartbeats 8000000 in
set_option maxRecDepth 100000 in
theorem block_Plain.calls (k : Nat) (a0_0 : Int) (a0_1 : Int) (a0_2 : Int) (a0_3 : Int) (a0_4 : Int) (a0_5 : ByteArray) (r : Bool) (w : World) (h : block_Plain.f k a0_0 a0_1 a0_2 a0_3 a0_4 a0_5 = some r) :
    Calls Try.prog 90 #[.agg #[.int .i64 a0_0, .int .i64 a0_1, .int .i64 a0_2, .int .i64 a0_3, .int .i64 a0_4, .string a0_5]] w fun e w' => e = .returned (.bool r) ∧ Below w.heap.size w w' := by
 have hu24 := Try.underlying24
 have HB := As_.mk (Below.refl w.heap.size w)
 have H : ((isa_IsIns.f k a0_0 a0_1 a0_2 a0_3 a0_4 a0_5).bind fun t128 => (if t128 = true then ((isa_Ends.f a0_0).bind fun t129 => (if t129 = true then (some false) else (some (a0_0 != 0)))) else (some false))) = some r := h
 clear h
 replace H := Option.bind_eq_some_iff.mp H
 obtain ⟨t128, A20, H⟩ := H
 replace H : (if t128 = true then ((isa_Ends.f a0_0).bind fun t129 => (if t129 = true then (some false) else (some (a0_0 != 0)))) else (some false)) = some r := H
 have A2 := As_.mk A20
 clear A20
 by_cases c3 : t128 = true
 ·subst c3
  have H1 : ((isa_Ends.f a0_0).bind fun t129 => (if t129 = true then (some false) else (some (a0_0 != 0)))) = some r := by rw [if_pos rfl] at H; exact H
  clear H
  have H := H1
  clear H1
  replace H := Option.bind_eq_some_iff.mp H
  obtain ⟨t129, A40, H⟩ := H
  replace H : (if t129 = true then (some false) else (some (a0_0 != 0))) = some r := H
  have A4 := As_.mk A40
  clear A40
  by_cases c5 : t129 = true
  ·subst c5
   have H1 : (some false) = some r := by rw [if_pos rfl] at H; exact H
   clear H
   have H := H1
   clear H1
   obtain rfl := Option.some.inj H
   go_enter Try.func90, Try.ntmps90
   go_wp2_with (first | ((with_reducible refine gate_dst (N := 1) rfl ?_); refine box_event ?hg (N := 1) ?hd (cs := #[.int .i64 a0_0, .int .i64 a0_1, .int .i64 a0_2, .int .i64 a0_3, .int .i64 a0_4, .string a0_5]) (t := 24) ?hr ?_; (case hd => rfl); (case hg => rfl); (case hr => first | (go_simp; done) | (go_simp; rfl)); intro gb127 hg w6 hbox hb; have n0_ := As_.mk (bT_ (by repeat (first | (with_reducible first | exact HB.out | apply bA_ | apply bN_ | apply b1_) | exact HB.out)) hb); have n1_ := As_.mk (hbox); have n2_ := As_.mk ((by rw [hg]; exact (bY_ (by repeat (first | (with_reducible first | exact HB.out | apply bA_ | apply bN_ | apply b1_) | exact HB.out))) : w.heap.size ≤ gb127)); have n3_ := As_.mk ((by rw [hg]; exact (bY_ (by repeat (first | (with_reducible first | exact HB.out | apply bA_ | apply bN_ | apply b1_) | exact HB.out))) : w.heap.size ≤ gb127)); clear HB; have HB := n0_; have BK127 := n1_; have GW127 := n2_; have GE127 := n3_; clear n0_ n1_ n2_ n3_; clear hb hbox hg; have hcz7_0 : w6.cell? ⟨gb127, 0, none⟩ = some (.int .i64 a0_0) := (bC_ BK127.out 0).trans rfl; have hcz7_1 : w6.cell? ⟨gb127, 1, none⟩ = some (.int .i64 a0_1) := (bC_ BK127.out 1).trans rfl; have hcz7_2 : w6.cell? ⟨gb127, 2, none⟩ = some (.int .i64 a0_2) := (bC_ BK127.out 2).trans rfl; have hcz7_3 : w6.cell? ⟨gb127, 3, none⟩ = some (.int .i64 a0_3) := (bC_ BK127.out 3).trans rfl; have hcz7_4 : w6.cell? ⟨gb127, 4, none⟩ = some (.int .i64 a0_4) := (bC_ BK127.out 4).trans rfl; have hcz7_5 : w6.cell? ⟨gb127, 5, none⟩ = some (.string a0_5) := (bC_ BK127.out 5).trans rfl; have hfz7_0 := bZ_ BK127.out 0; have hfz7_1 := bZ_ BK127.out 1; have hfz7_2 := bZ_ BK127.out 2; have hfz7_3 := bZ_ BK127.out 3; have hfz7_4 := bZ_ BK127.out 4; have hfz7_5 := bZ_ BK127.out 5) | ((with_reducible refine gC_ (f := 63) rfl ?_); refine goesL_ (some 4) rfl rfl Try.func63 (by kernel_rfl) rfl #[.agg #[.int .i64 a0_0, .int .i64 a0_1, .int .i64 a0_2, .int .i64 a0_3, .int .i64 a0_4, .string a0_5]] rfl (by (try simp only [List.map_toArray, List.map_cons, List.map_nil]); first | done | rfl) ?_; (with_reducible refine (isa_IsIns.calls k a0_0 a0_1 a0_2 a0_3 a0_4 a0_5 true _ A2.out).mono ?_); rintro e w8 ⟨rfl, hb⟩; refine ⟨_, rfl, ?_⟩; have n0_ := As_.mk (kB_ (g := gb127) (o := .cells #[.int .i64 a0_0, .int .i64 a0_1, .int .i64 a0_2, .int .i64 a0_3, .int .i64 a0_4, .string a0_5] 24 (0, 0)) (by (with_reducible repeat (first | refine kN_ ?_ _ | refine kD_ ?_ | refine kA_ ?_ _)); exact BK127.out) hb); have n1_ := As_.mk (bT_ (by repeat (first | (with_reducible first | exact HB.out | apply bA_ | apply bN_ | apply b1_ | refine bS_ ?_ GE127.out) | exact HB.out)) hb); clear BK127; clear HB; have BK127 := n0_; have HB := n1_; clear n0_ n1_; have hcz9_0 : w8.cell? ⟨gb127, 0, none⟩ = some (.int .i64 a0_0) := (bC_ BK127.out 0).trans rfl; have hcz9_1 : w8.cell? ⟨gb127, 1, none⟩ = some (.int .i64 a0_1) := (bC_ BK127.out 1).trans rfl; have hcz9_2 : w8.cell? ⟨gb127, 2, none⟩ = some (.int .i64 a0_2) := (bC_ BK127.out 2).trans rfl; have hcz9_3 : w8.cell? ⟨gb127, 3, none⟩ = some (.int .i64 a0_3) := (bC_ BK127.out 3).trans rfl; have hcz9_4 : w8.cell? ⟨gb127, 4, none⟩ = some (.int .i64 a0_4) := (bC_ BK127.out 4).trans rfl; have hcz9_5 : w8.cell? ⟨gb127, 5, none⟩ = some (.string a0_5) := (bC_ BK127.out 5).trans rfl; have hfz9_0 := bZ_ BK127.out 0; have hfz9_1 := bZ_ BK127.out 1; have hfz9_2 := bZ_ BK127.out 2; have hfz9_3 := bZ_ BK127.out 3; have hfz9_4 := bZ_ BK127.out 4; have hfz9_5 := bZ_ BK127.out 5) | (go_at_call 64; (with_reducible refine (isa_Ends.calls a0_0 true _ A4.out).mono ?_); rintro e w' ⟨rfl, ⟨nd, rfl⟩⟩))
   go_ret
   exact ⟨by first | rfl | (simp [eN_, eS_] <;> rfl) | (simp [*, eN_, eS_] <;> rfl), by repeat (first | (with_reducible first | exact HB.out | apply bA_ | apply bN_ | apply b1_ | refine bS_ ?_ GE127.out) | exact HB.out)⟩
  replace c5 := Bool.eq_false_iff.mpr c5
  subst c5
  have H1 : (some (a0_0 != 0)) = some r := by rw [if_neg (show ¬ (false = true) by decide)] at H; exact H
  clear H
  have H := H1
  clear H1
  obtain rfl := Option.some.inj H
  go_enter Try.func90, Try.ntmps90
  go_wp2_with (first | ((with_reducible refine gate_dst (N := 1) rfl ?_); refine box_event ?hg (N := 1) ?hd (cs := #[.int .i64 a0_0, .int .i64 a0_1, .int .i64 a0_2, .int .i64 a0_3, .int .i64 a0_4, .string a0_5]) (t := 24) ?hr ?_; (case hd => rfl); (case hg => rfl); (case hr => first | (go_simp; done) | (go_simp; rfl)); intro gb127 hg w10 hbox hb; have n0_ := As_.mk (bT_ (by repeat (first | (with_reducible first | exact HB.out | apply bA_ | apply bN_ | apply b1_) | exact HB.out)) hb); have n1_ := As_.mk (hbox); have n2_ := As_.mk ((by rw [hg]; exact (bY_ (by repeat (first | (with_reducible first | exact HB.out | apply bA_ | apply bN_ | apply b1_) | exact HB.out))) : w.heap.size ≤ gb127)); have n3_ := As_.mk ((by rw [hg]; exact (bY_ (by repeat (first | (with_reducible first | exact HB.out | apply bA_ | apply bN_ | apply b1_) | exact HB.out))) : w.heap.size ≤ gb127)); clear HB; have HB := n0_; have BK127 := n1_; have GW127 := n2_; have GE127 := n3_; clear n0_ n1_ n2_ n3_; clear hb hbox hg; have hcz11_0 : w10.cell? ⟨gb127, 0, none⟩ = some (.int .i64 a0_0) := (bC_ BK127.out 0).trans rfl; have hcz11_1 : w10.cell? ⟨gb127, 1, none⟩ = some (.int .i64 a0_1) := (bC_ BK127.out 1).trans rfl; have hcz11_2 : w10.cell? ⟨gb127, 2, none⟩ = some (.int .i64 a0_2) := (bC_ BK127.out 2).trans rfl; have hcz11_3 : w10.cell? ⟨gb127, 3, none⟩ = some (.int .i64 a0_3) := (bC_ BK127.out 3).trans rfl; have hcz11_4 : w10.cell? ⟨gb127, 4, none⟩ = some (.int .i64 a0_4) := (bC_ BK127.out 4).trans rfl; have hcz11_5 : w10.cell? ⟨gb127, 5, none⟩ = some (.string a0_5) := (bC_ BK127.out 5).trans rfl; have hfz11_0 := bZ_ BK127.out 0; have hfz11_1 := bZ_ BK127.out 1; have hfz11_2 := bZ_ BK127.out 2; have hfz11_3 := bZ_ BK127.out 3; have hfz11_4 := bZ_ BK127.out 4; have hfz11_5 := bZ_ BK127.out 5) | ((with_reducible refine gC_ (f := 63) rfl ?_); refine goesL_ (some 4) rfl rfl Try.func63 (by kernel_rfl) rfl #[.agg #[.int .i64 a0_0, .int .i64 a0_1, .int .i64 a0_2, .int .i64 a0_3, .int .i64 a0_4, .string a0_5]] rfl (by (try simp only [List.map_toArray, List.map_cons, List.map_nil]); first | done | rfl) ?_; (with_reducible refine (isa_IsIns.calls k a0_0 a0_1 a0_2 a0_3 a0_4 a0_5 true _ A2.out).mono ?_); rintro e w12 ⟨rfl, hb⟩; refine ⟨_, rfl, ?_⟩; have n0_ := As_.mk (kB_ (g := gb127) (o := .cells #[.int .i64 a0_0, .int .i64 a0_1, .int .i64 a0_2, .int .i64 a0_3, .int .i64 a0_4, .string a0_5] 24 (0, 0)) (by (with_reducible repeat (first | refine kN_ ?_ _ | refine kD_ ?_ | refine kA_ ?_ _)); exact BK127.out) hb); have n1_ := As_.mk (bT_ (by repeat (first | (with_reducible first | exact HB.out | apply bA_ | apply bN_ | apply b1_ | refine bS_ ?_ GE127.out) | exact HB.out)) hb); clear BK127; clear HB; have BK127 := n0_; have HB := n1_; clear n0_ n1_; have hcz13_0 : w12.cell? ⟨gb127, 0, none⟩ = some (.int .i64 a0_0) := (bC_ BK127.out 0).trans rfl; have hcz13_1 : w12.cell? ⟨gb127, 1, none⟩ = some (.int .i64 a0_1) := (bC_ BK127.out 1).trans rfl; have hcz13_2 : w12.cell? ⟨gb127, 2, none⟩ = some (.int .i64 a0_2) := (bC_ BK127.out 2).trans rfl; have hcz13_3 : w12.cell? ⟨gb127, 3, none⟩ = some (.int .i64 a0_3) := (bC_ BK127.out 3).trans rfl; have hcz13_4 : w12.cell? ⟨gb127, 4, none⟩ = some (.int .i64 a0_4) := (bC_ BK127.out 4).trans rfl; have hcz13_5 : w12.cell? ⟨gb127, 5, none⟩ = some (.string a0_5) := (bC_ BK127.out 5).trans rfl; have hfz13_0 := bZ_ BK127.out 0; have hfz13_1 := bZ_ BK127.out 1; have hfz13_2 := bZ_ BK127.out 2; have hfz13_3 := bZ_ BK127.out 3; have hfz13_4 := bZ_ BK127.out 4; have hfz13_5 := bZ_ BK127.out 5) | (go_at_call 64; (with_reducible refine (isa_Ends.calls a0_0 false _ A4.out).mono ?_); rintro e w' ⟨rfl, ⟨nd, rfl⟩⟩))
  go_ret
  exact ⟨by first | rfl | (simp [eN_, eS_] <;> rfl) | (simp [*, eN_, eS_] <;> rfl), by repeat (first | (with_reducible first | exact HB.out | apply bA_ | apply bN_ | apply b1_ | refine bS_ ?_ GE127.out) | exact HB.out)⟩
 replace c3 := Bool.eq_false_iff.mpr c3
 subst c3
 have H1 : (some false) = some r := by rw [if_neg (show ¬ (false = true) by decide)] at H; exact H
 clear H
 have H := H1
 clear H1
 obtain rfl := Option.some.inj H
 go_enter Try.func90, Try.ntmps90
 go_wp2_with (first | ((with_reducible refine gate_dst (N := 1) rfl ?_); refine box_event ?hg (N := 1) ?hd (cs := #[.int .i64 a0_0, .int .i64 a0_1, .int .i64 a0_2, .int .i64 a0_3, .int .i64 a0_4, .string a0_5]) (t := 24) ?hr ?_; (case hd => rfl); (case hg => rfl); (case hr => first | (go_simp; done) | (go_simp; rfl)); intro gb127 hg w14 hbox hb; have n0_ := As_.mk (bT_ (by repeat (first | (with_reducible first | exact HB.out | apply bA_ | apply bN_ | apply b1_) | exact HB.out)) hb); have n1_ := As_.mk (hbox); have n2_ := As_.mk ((by rw [hg]; exact (bY_ (by repeat (first | (with_reducible first | exact HB.out | apply bA_ | apply bN_ | apply b1_) | exact HB.out))) : w.heap.size ≤ gb127)); have n3_ := As_.mk ((by rw [hg]; exact (bY_ (by repeat (first | (with_reducible first | exact HB.out | apply bA_ | apply bN_ | apply b1_) | exact HB.out))) : w.heap.size ≤ gb127)); clear HB; have HB := n0_; have BK127 := n1_; have GW127 := n2_; have GE127 := n3_; clear n0_ n1_ n2_ n3_; clear hb hbox hg; have hcz15_0 : w14.cell? ⟨gb127, 0, none⟩ = some (.int .i64 a0_0) := (bC_ BK127.out 0).trans rfl; have hcz15_1 : w14.cell? ⟨gb127, 1, none⟩ = some (.int .i64 a0_1) := (bC_ BK127.out 1).trans rfl; have hcz15_2 : w14.cell? ⟨gb127, 2, none⟩ = some (.int .i64 a0_2) := (bC_ BK127.out 2).trans rfl; have hcz15_3 : w14.cell? ⟨gb127, 3, none⟩ = some (.int .i64 a0_3) := (bC_ BK127.out 3).trans rfl; have hcz15_4 : w14.cell? ⟨gb127, 4, none⟩ = some (.int .i64 a0_4) := (bC_ BK127.out 4).trans rfl; have hcz15_5 : w14.cell? ⟨gb127, 5, none⟩ = some (.string a0_5) := (bC_ BK127.out 5).trans rfl; have hfz15_0 := bZ_ BK127.out 0; have hfz15_1 := bZ_ BK127.out 1; have hfz15_2 := bZ_ BK127.out 2; have hfz15_3 := bZ_ BK127.out 3; have hfz15_4 := bZ_ BK127.out 4; have hfz15_5 := bZ_ BK127.out 5) | ((with_reducible refine gC_ (f := 63) rfl ?_); refine goesL_ (some 4) rfl rfl Try.func63 (by kernel_rfl) rfl #[.agg #[.int .i64 a0_0, .int .i64 a0_1, .int .i64 a0_2, .int .i64 a0_3, .int .i64 a0_4, .string a0_5]] rfl (by (try simp only [List.map_toArray, List.map_cons, List.map_nil]); first | done | rfl) ?_; (with_reducible refine (isa_IsIns.calls k a0_0 a0_1 a0_2 a0_3 a0_4 a0_5 false _ A2.out).mono ?_); rintro e w16 ⟨rfl, hb⟩; refine ⟨_, rfl, ?_⟩; have n0_ := As_.mk (kB_ (g := gb127) (o := .cells #[.int .i64 a0_0, .int .i64 a0_1, .int .i64 a0_2, .int .i64 a0_3, .int .i64 a0_4, .string a0_5] 24 (0, 0)) (by (with_reducible repeat (first | refine kN_ ?_ _ | refine kD_ ?_ | refine kA_ ?_ _)); exact BK127.out) hb); have n1_ := As_.mk (bT_ (by repeat (first | (with_reducible first | exact HB.out | apply bA_ | apply bN_ | apply b1_ | refine bS_ ?_ GE127.out) | exact HB.out)) hb); clear BK127; clear HB; have BK127 := n0_; have HB := n1_; clear n0_ n1_))
 go_ret
 exact ⟨by first | rfl | (simp [eN_, eS_] <;> rfl) | (simp [*, eN_, eS_] <;> rfl), by repeat (first | (with_reducible first | exact HB.out | apply bA_ | apply bN_ | apply b1_ | refine bS_ ?_ GE127.out) | exact HB.out)⟩
def dag_May_1.f (k : Nat) (a0_0 : Int) (a0_1 : Int) (a0_2 : Int) (a0_3 : Int) (a0_4 : Int) (a0_5 : ByteArray) : Option (Bool) := (block_Plain.f k a0_0 a0_1 a0_2 a0_3 a0_4 a0_5).bind fun t131 => (some (!t131))
theorem dag_May_1.mono : ∀ a0 a1 a2 a3 a4 a5 k, LeO (dag_May_1.f k a0 a1 a2 a3 a4 a5) (dag_May_1.f (k + 1) a0 a1 a2 a3 a4 a5) := by
 intro a0 a1 a2 a3 a4 a5 k
 unfold dag_May_1.f
 repeat' first
  | (with_reducible exact block_Plain.mono _ _ _ _ _ _ _)
  | (with_reducible exact LeO.refl _)
  | (with_reducible exact LeO.none _)
  | (with_reducible refine LeO.ite ?_ ?_)
  | (with_reducible refine LeO.bind ?_ (fun _ => ?_))
  | exact LeO.none _
  | refine LeO.ite ?_ ?_
  | refine LeO.bind ?_ (fun _ => ?_)
set_option maxHeartbeats 8000000 in
set_option maxRecDepth 100000 in
theorem dag_May_1.calls (k : Nat) (a0_0 : Int) (a0_1 : Int) (a0_2 : Int) (a0_3 : Int) (a0_4 : Int) (a0_5 : ByteArray) (r : Bool) (w : World) (h : dag_May_1.f k a0_0 a0_1 a0_2 a0_3 a0_4 a0_5 = some r) :
    Calls Try.prog 89 #[.agg #[.int .i64 a0_0, .int .i64 a0_1, .int .i64 a0_2, .int .i64 a0_3, .int .i64 a0_4, .string a0_5]] w fun e w' => e = .returned (.bool r) ∧ Below w.heap.size w w' := by
 have hu24 := Try.underlying24
 have HB := As_.mk (Below.refl w.heap.size w)
 have H : ((block_Plain.f k a0_0 a0_1 a0_2 a0_3 a0_4 a0_5).bind fun t131 => (some (!t131))) = some r := h
 clear h
 replace H := Option.bind_eq_some_iff.mp H
 obtain ⟨t131, A20, H⟩ := H
 replace H : (some (!t131)) = some r := H
 have A2 := As_.mk A20
 clear A20
 obtain rfl := Option.some.inj H
 go_enter Try.func89, Try.ntmps89
 go_wp2_with (first | ((with_reducible refine gate_dst (N := 1) rfl ?_); refine box_event ?hg (N := 1) ?hd (cs := #[.int .i64 a0_0, .int .i64 a0_1, .int .i64 a0_2, .int .i64 a0_3, .int .i64 a0_4, .string a0_5]) (t := 24) ?hr ?_; (case hd => rfl); (case hg => rfl); (case hr => first | (go_simp; done) | (go_simp; rfl)); intro gb130 hg w3 hbox hb; have n0_ := As_.mk (bT_ (by repeat (first | (with_reducible first | exact HB.out | apply bA_ | apply bN_ | apply b1_) | exact HB.out)) hb); have n1_ := As_.mk (hbox); have n2_ := As_.mk ((by rw [hg]; exact (bY_ (by repeat (first | (with_reducible first | exact HB.out | apply bA_ | apply bN_ | apply b1_) | exact HB.out))) : w.heap.size ≤ gb130)); have n3_ := As_.mk ((by rw [hg]; exact (bY_ (by repeat (first | (with_reducible first | exact HB.out | apply bA_ | apply bN_ | apply b1_) | exact HB.out))) : w.heap.size ≤ gb130)); clear HB; have HB := n0_; have BK130 := n1_; have GW130 := n2_; have GE130 := n3_; clear n0_ n1_ n2_ n3_; clear hb hbox hg; have hcz4_0 : w3.cell? ⟨gb130, 0, none⟩ = some (.int .i64 a0_0) := (bC_ BK130.out 0).trans rfl; have hcz4_1 : w3.cell? ⟨gb130, 1, none⟩ = some (.int .i64 a0_1) := (bC_ BK130.out 1).trans rfl; have hcz4_2 : w3.cell? ⟨gb130, 2, none⟩ = some (.int .i64 a0_2) := (bC_ BK130.out 2).trans rfl; have hcz4_3 : w3.cell? ⟨gb130, 3, none⟩ = some (.int .i64 a0_3) := (bC_ BK130.out 3).trans rfl; have hcz4_4 : w3.cell? ⟨gb130, 4, none⟩ = some (.int .i64 a0_4) := (bC_ BK130.out 4).trans rfl; have hcz4_5 : w3.cell? ⟨gb130, 5, none⟩ = some (.string a0_5) := (bC_ BK130.out 5).trans rfl; have hfz4_0 := bZ_ BK130.out 0; have hfz4_1 := bZ_ BK130.out 1; have hfz4_2 := bZ_ BK130.out 2; have hfz4_3 := bZ_ BK130.out 3; have hfz4_4 := bZ_ BK130.out 4; have hfz4_5 := bZ_ BK130.out 5) | ((with_reducible refine gC_ (f := 90) rfl ?_); refine goesL_ (some 4) rfl rfl Try.func90 (by kernel_rfl) rfl #[.agg #[.int .i64 a0_0, .int .i64 a0_1, .int .i64 a0_2, .int .i64 a0_3, .int .i64 a0_4, .string a0_5]] rfl (by (try simp only [List.map_toArray, List.map_cons, List.map_nil]); first | done | rfl) ?_; (with_reducible refine (block_Plain.calls k a0_0 a0_1 a0_2 a0_3 a0_4 a0_5 t131 _ A2.out).mono ?_); rintro e w5 ⟨rfl, hb⟩; refine ⟨_, rfl, ?_⟩; have n0_ := As_.mk (kB_ (g := gb130) (o := .cells #[.int .i64 a0_0, .int .i64 a0_1, .int .i64 a0_2, .int .i64 a0_3, .int .i64 a0_4, .string a0_5] 24 (0, 0)) (by (with_reducible repeat (first | refine kN_ ?_ _ | refine kD_ ?_ | refine kA_ ?_ _)); exact BK130.out) hb); have n1_ := As_.mk (bT_ (by repeat (first | (with_reducible first | exact HB.out | apply bA_ | apply bN_ | apply b1_ | refine bS_ ?_ GE130.out) | exact HB.out)) hb); clear BK130; clear HB; have BK130 := n0_; have HB := n1_; clear n0_ n1_))
 go_ret
 exact ⟨by first | rfl | (simp [eN_, eS_] <;> rfl) | (simp [*, eN_, eS_] <;> rfl), by repeat (first | (with_reducible first | exact HB.out | apply bA_ | apply bN_ | apply b1_ | refine bS_ ?_ GE130.out) | exact HB.out)⟩
def aI89_114089.l0 : Nat → List (S24) → Int → Int → Option (Int)
  | 0, _, _, _ => none
  | k + 1, x0, x7, x8 => if x8 < x7 then (if 0 ≤ x8 then (if x8 < (x0.length : Int) then ((dag_May_1.f k ((q24 x0 x8).f0) ((q24 x0 x8).f1) ((q24 x0 x8).f2) ((q24 x0 x8).f3) ((q24 x0 x8).f4) ((q24 x0 x8).f5)).bind fun t133 => (if t133 = true then (some x8) else (aI89_114089.l0 k x0 x7 (wrap64 (x8 + 1))))) else (none)) else (none)) else (some (-1))
def aI89_114089.f (k : Nat) (l0 : List (S24))  : Option (Int) := aI89_114089.l0 k l0 (l0.length : Int) 0
theorem aI89_114089.mono_l : ∀ k, (∀ y0 y1 y2, LeO (aI89_114089.l0 k y0 y1 y2) (aI89_114089.l0 (k + 1) y0 y1 y2))
  | 0 => fun _ _ _ r h => by simp [aI89_114089.l0] at h
  | k + 1 => by
    have ih0 := aI89_114089.mono_l k
    · intro y0 y1 y2
      unfold aI89_114089.l0
      repeat' first
      | (with_reducible exact ih0 _ _ _)
      | (with_reducible exact dag_May_1.mono _ _ _ _ _ _ _)
      | (with_reducible exact LeO.refl _)
      | (with_reducible exact LeO.none _)
      | (with_reducible refine LeO.ite ?_ ?_)
      | (with_reducible refine LeO.bind ?_ (fun _ => ?_))
      | exact LeO.none _
      | refine LeO.ite ?_ ?_
      | refine LeO.bind ?_ (fun _ => ?_)
theorem aI89_114089.mono : ∀ a0 k, LeO (aI89_114089.f k a0) (aI89_114089.f (k + 1) a0) := by
 intro a0 k
 have ih0 := aI89_114089.mono_l k
 unfold aI89_114089.f
 repeat' first
  | (with_reducible exact ih0 _ _ _)
  | (with_reducible exact dag_May_1.mono _ _ _ _ _ _ _)
  | (with_reducible exact LeO.refl _)
  | (with_reducible exact LeO.none _)
  | (with_reducible refine LeO.ite ?_ ?_)
  | (with_reducible refine LeO.bind ?_ (fun _ => ?_))
  | exact LeO.none _
  | refine LeO.ite ?_ ?_
  | refine LeO.bind ?_ (fun _ => ?_)
set_option maxHeartbeats 8000000 in
set_option maxRecDepth 100000 in
theorem aI89_114089.calls (k : Nat) (A0 : Option Addr) (c0 : Nat) (l0 : List (S24))  (r : Int) (w : World) (hr0 : Kd.C k24 w A0 l0.length l0) (hc0 : l0.length ≤ c0) (h : aI89_114089.f k l0 = some r) :
    Calls Try.prog 114 #[.slice A0 l0.length c0, .func (.func 89) #[] #[]] w fun e w' => e = .returned (.int .i64 r) ∧ Below w.heap.size w w' := by
 have hu24 := Try.underlying24
 have HR0 := As_.mk hr0
 have HC0 := As_.mk hc0
 clear hr0 hc0
 have HB := As_.mk (Below.refl w.heap.size w)
 have H : (aI89_114089.l0 k l0 (l0.length : Int) 0) = some r := h
 clear h
 have H' := As_.mk H
 clear H
 go_enter Try.func114, Try.ntmps114
 go_wp2
 go_loopg [8] k (fun kq v8 w' => ∃ (x8_1 : Int), v8 = .int .i64 x8_1 ∧ As_ (aI89_114089.l0 kq l0 (l0.length : Int) x8_1 = some r) ∧ As_ (kq ≤ k) ∧ As_ (Below w.heap.size w w'))
 case atStart => exact ⟨(0), (by first | rfl | (simp; done) | (simp [*]; done) | (simp [wrap64]; done) | (congr 1; rw [Bool.eq_iff_iff]; simp; done)), H', ⟨Nat.le_refl _⟩, ⟨by repeat (first | (with_reducible first | exact HB.out | apply bA_ | apply bN_ | apply b1_) | exact HB.out)⟩⟩
 case round =>
  clear H'
  obtain ⟨x8_1, rfl, HA, HK1, HB⟩ := hrel
  cases gk with
  | zero => exact absurd HA.out (by simp [aI89_114089.l0])
  | succ k1 =>
   have H := HA.out
   clear HA
   simp only [aI89_114089.l0] at H
   by_cases c3 : x8_1 < (l0.length : Int)
   ·rw [if_pos c3] at H
    have c3b0 : decide (x8_1 < (l0.length : Int)) = true := decide_eq_true c3
    clear c3
    by_cases c4 : 0 ≤ x8_1
    ·rw [if_pos c4] at H
     have c4b0 : decide (0 ≤ x8_1) = true := decide_eq_true c4
     clear c4
     by_cases c5 : x8_1 < (l0.length : Int)
     ·rw [if_pos c5] at H
      have c5b0 : decide (x8_1 < (l0.length : Int)) = true := decide_eq_true c5
      clear c5
      replace H := Option.bind_eq_some_iff.mp H
      obtain ⟨t133, A60, H⟩ := H
      replace H : (if t133 = true then (some x8_1) else (aI89_114089.l0 k1 l0 (l0.length : Int) (wrap64 (x8_1 + 1)))) = some r := H
      have A6 := As_.mk A60
      clear A60
      by_cases c7 : t133 = true
      ·subst c7
       have H1 : (some x8_1) = some r := by rw [if_pos rfl] at H; exact H
       clear H
       have H := H1
       clear H1
       obtain rfl := Option.some.inj H
       have p132 : 0 ≤ (x8_1 : Int) := of_decide_eq_true (by assumption)
       have q132 : x8_1 < (l0.length : Int) := of_decide_eq_true (by assumption)
       obtain ⟨ad132, e132, hx132_0, hx132_1, hx132_2, hx132_3, hx132_4, hx132_5⟩ := at_T24 HR0.out x8_1 p132 q132
       cases e132
       replace hx132_0 := (HB.out.cell (World.block_lt_of_cell? w _ hx132_0)).trans hx132_0
       replace hx132_1 := (HB.out.cell (World.block_lt_of_cell? w _ hx132_1)).trans hx132_1
       replace hx132_2 := (HB.out.cell (World.block_lt_of_cell? w _ hx132_2)).trans hx132_2
       replace hx132_3 := (HB.out.cell (World.block_lt_of_cell? w _ hx132_3)).trans hx132_3
       replace hx132_4 := (HB.out.cell (World.block_lt_of_cell? w _ hx132_4)).trans hx132_4
       replace hx132_5 := (HB.out.cell (World.block_lt_of_cell? w _ hx132_5)).trans hx132_5
       replace p132 := eq_true p132
       replace q132 := eq_true q132
       go_wp2_with (first | (go_at_call 89; (with_reducible refine (dag_May_1.calls k1 ((q24 l0 x8_1).f0) ((q24 l0 x8_1).f1) ((q24 l0 x8_1).f2) ((q24 l0 x8_1).f3) ((q24 l0 x8_1).f4) ((q24 l0 x8_1).f5) true _ A6.out).mono ?_); rintro e w8 ⟨rfl, hb⟩; have n0_ := As_.mk (bT_ (by repeat (first | (with_reducible first | exact HB.out | apply bA_ | apply bN_ | apply b1_) | exact HB.out)) hb); clear HB; have HB := n0_; clear n0_))
       go_ret
       exact ⟨by first | rfl | (simp [eN_, eS_] <;> rfl) | (simp [*, eN_, eS_] <;> rfl), by repeat (first | (with_reducible first | exact HB.out | apply bA_ | apply bN_ | apply b1_) | exact HB.out)⟩
      replace c7 := Bool.eq_false_iff.mpr c7
      subst c7
      have H1 : (aI89_114089.l0 k1 l0 (l0.length : Int) (wrap64 (x8_1 + 1))) = some r := by rw [if_neg (show ¬ (false = true) by decide)] at H; exact H
      clear H
      have H := H1
      clear H1
      have H' := As_.mk H
      clear H
      have p132 : 0 ≤ (x8_1 : Int) := of_decide_eq_true (by assumption)
      have q132 : x8_1 < (l0.length : Int) := of_decide_eq_true (by assumption)
      obtain ⟨ad132, e132, hx132_0, hx132_1, hx132_2, hx132_3, hx132_4, hx132_5⟩ := at_T24 HR0.out x8_1 p132 q132
      cases e132
      replace hx132_0 := (HB.out.cell (World.block_lt_of_cell? w _ hx132_0)).trans hx132_0
      replace hx132_1 := (HB.out.cell (World.block_lt_of_cell? w _ hx132_1)).trans hx132_1
      replace hx132_2 := (HB.out.cell (World.block_lt_of_cell? w _ hx132_2)).trans hx132_2
      replace hx132_3 := (HB.out.cell (World.block_lt_of_cell? w _ hx132_3)).trans hx132_3
      replace hx132_4 := (HB.out.cell (World.block_lt_of_cell? w _ hx132_4)).trans hx132_4
      replace hx132_5 := (HB.out.cell (World.block_lt_of_cell? w _ hx132_5)).trans hx132_5
      replace p132 := eq_true p132
      replace q132 := eq_true q132
      go_wp2_with (first | (go_at_call 89; (with_reducible refine (dag_May_1.calls k1 ((q24 l0 x8_1).f0) ((q24 l0 x8_1).f1) ((q24 l0 x8_1).f2) ((q24 l0 x8_1).f3) ((q24 l0 x8_1).f4) ((q24 l0 x8_1).f5) false _ A6.out).mono ?_); rintro e w9 ⟨rfl, hb⟩; have n0_ := As_.mk (bT_ (by repeat (first | (with_reducible first | exact HB.out | apply bA_ | apply bN_ | apply b1_) | exact HB.out)) hb); clear HB; have HB := n0_; clear n0_))
      go_roundg k1
      case measure => have := HK1.out; omega
      case rel => exact ⟨(wrap64 (x8_1 + 1)), (by first | rfl | (simp; done) | (simp [*]; done) | (simp [wrap64]; done) | (congr 1; rw [Bool.eq_iff_iff]; simp; done)), H', ⟨by have := HK1.out; omega⟩, ⟨by repeat (first | (with_reducible first | exact HB.out | apply bA_ | apply bN_ | apply b1_) | exact HB.out)⟩⟩
     rw [if_neg c5] at H
     exact absurd H (by simp)
    rw [if_neg c4] at H
    exact absurd H (by simp)
   rw [if_neg c3] at H
   have c3b0 : decide (x8_1 < (l0.length : Int)) = false := decide_eq_false c3
   clear c3
   obtain rfl := Option.some.inj H
   go_wp2
   go_ret
   exact ⟨by first | rfl | (simp [eN_, eS_] <;> rfl) | (simp [*, eN_, eS_] <;> rfl), by repeat (first | (with_reducible first | exact HB.out | apply bA_ | apply bN_ | apply b1_) | exact HB.out)⟩
def aI89_88089.f (k : Nat) (l0 : List (S24))  : Option (Bool) := (aI89_114089.f k l0).bind fun t134 => (some (decide (t134 ≥ 0)))
theorem aI89_88089.mono : ∀ a0 k, LeO (aI89_88089.f k a0) (aI89_88089.f (k + 1) a0) := by
 intro a0 k
 unfold aI89_88089.f
 repeat' first
  | (with_reducible exact aI89_114089.mono _ _)
  | (with_reducible exact LeO.refl _)
  | (with_reducible exact LeO.none _)
  | (with_reducible refine LeO.ite ?_ ?_)
  | (with_reducible refine LeO.bind ?_ (fun _ => ?_))
  | exact LeO.none _
  | refine LeO.ite ?_ ?_
  | refine LeO.bind ?_ (fun _ => ?_)
set_option maxHeartbeats 8000000 in
set_option maxRecDepth 100000 in
theorem aI89_88089.calls (k : Nat) (A0 : Option Addr) (c0 : Nat) (l0 : List (S24))  (r : Bool) (w : World) (hr0 : Kd.C k24 w A0 l0.length l0) (hc0 : l0.length ≤ c0) (h : aI89_88089.f k l0 = some r) :
    Calls Try.prog 88 #[.slice A0 l0.length c0, .func (.func 89) #[] #[]] w fun e w' => e = .returned (.bool r) ∧ Below w.heap.size w w' := by
 have HR0 := As_.mk hr0
 have HC0 := As_.mk hc0
 clear hr0 hc0
 have HB := As_.mk (Below.refl w.heap.size w)
 have H : ((aI89_114089.f k l0).bind fun t134 => (some (decide (t134 ≥ 0)))) = some r := h
 clear h
 replace H := Option.bind_eq_some_iff.mp H
 obtain ⟨t134, A30, H⟩ := H
 replace H : (some (decide (t134 ≥ 0))) = some r := H
 have A3 := As_.mk A30
 clear A30
 obtain rfl := Option.some.inj H
 go_enter Try.func88, Try.ntmps88
 go_wp2_with (first | ((with_reducible refine gC_ (f := 114) rfl ?_); refine goesL_ (some 7) rfl rfl Try.func114 (by kernel_rfl) rfl #[.slice A0 l0.length c0, .func (.func 89) #[] #[]] rfl (by (try simp only [List.map_toArray, List.map_cons, List.map_nil]); first | done | rfl) ?_; (with_reducible refine (aI89_114089.calls k _ _ l0  t134 _ ?side1 ?side2 A3.out).mono ?_); (case side1 => repeat (first | exact HR0.out | (with_reducible refine Kd.C_alloc ?_ _) | (with_reducible refine Kd.C_drewN ?_ _) | (with_reducible refine Kd.C_drew ?_))); (case side2 => exact HC0.out); rintro e w4 ⟨rfl, hb⟩; refine ⟨_, rfl, ?_⟩; have n0_ := As_.mk (bT_ (by repeat (first | (with_reducible first | exact HB.out | apply bA_ | apply bN_ | apply b1_) | exact HB.out)) hb); clear HB; have HB := n0_; clear n0_))
 go_ret
 exact ⟨by first | rfl | (simp [eN_, eS_] <;> rfl) | (simp [*, eN_, eS_] <;> rfl), by repeat (first | (with_reducible first | exact HB.out | apply bA_ | apply bN_ | apply b1_) | exact HB.out)⟩
def dag_May.f (k : Nat) (l0 : List (S24)) : Option (Bool) := if (l0.length : Int) ≤ 200 then ((aI89_88089.f k l0).bind fun t135 => (some (!t135))) else (some false)
theorem dag_May.mono : ∀ a0 k, LeO (dag_May.f k a0) (dag_May.f (k + 1) a0) := by
 intro a0 k
 unfold dag_May.f
 repeat' first
  | (with_reducible exact aI89_88089.mono _ _)
  | (with_reducible exact LeO.refl _)
  | (with_reducible exact LeO.none _)
  | (with_reducible refine LeO.ite ?_ ?_)
  | (with_reducible refine LeO.bind ?_ (fun _ => ?_))
  | exact LeO.none _
  | refine LeO.ite ?_ ?_
  | refine LeO.bind ?_ (fun _ => ?_)
set_option maxHeartbeats 8000000 in
set_option maxRecDepth 100000 in
theorem dag_May.calls (k : Nat) (A0 : Option Addr) (c0 : Nat) (l0 : List (S24)) (r : Bool) (w : World) (hr0 : Kd.C k24 w A0 l0.length l0) (hc0 : l0.length ≤ c0) (h : dag_May.f k l0 = some r) :
    Calls Try.prog 55 #[.slice A0 l0.length c0] w fun e w' => e = .returned (.bool r) ∧ Below w.heap.size w w' := by
 have HR0 := As_.mk hr0
 have HC0 := As_.mk hc0
 clear hr0 hc0
 have HB := As_.mk (Below.refl w.heap.size w)
 have H : (if (l0.length : Int) ≤ 200 then ((aI89_88089.f k l0).bind fun t135 => (some (!t135))) else (some false)) = some r := h
 clear h
 by_cases c2 : (l0.length : Int) ≤ 200
 ·rw [if_pos c2] at H
  have c2b0 : decide ((l0.length : Int) ≤ 200) = true := decide_eq_true c2
  have c2b1 : decide (l0.length ≤ 200) = true := decide_eq_true (by omega)
  clear c2
  replace H := Option.bind_eq_some_iff.mp H
  obtain ⟨t135, A30, H⟩ := H
  replace H : (some (!t135)) = some r := H
  have A3 := As_.mk A30
  clear A30
  obtain rfl := Option.some.inj H
  go_enter Try.func55, Try.ntmps55
  go_wp2_with (first | (go_at_call 88; (with_reducible refine (aI89_88089.calls k _ _ l0  t135 _ ?side1 ?side2 A3.out).mono ?_); (case side1 => repeat (first | exact HR0.out | (with_reducible refine Kd.C_alloc ?_ _) | (with_reducible refine Kd.C_drewN ?_ _) | (with_reducible refine Kd.C_drew ?_))); (case side2 => exact HC0.out); rintro e w4 ⟨rfl, hb⟩; have n0_ := As_.mk (bT_ (by repeat (first | (with_reducible first | exact HB.out | apply bA_ | apply bN_ | apply b1_) | exact HB.out)) hb); clear HB; have HB := n0_; clear n0_))
  go_ret
  exact ⟨by first | rfl | (simp [eN_, eS_] <;> rfl) | (simp [*, eN_, eS_] <;> rfl), by repeat (first | (with_reducible first | exact HB.out | apply bA_ | apply bN_ | apply b1_) | exact HB.out)⟩
 rw [if_neg c2] at H
 have c2b0 : decide ((l0.length : Int) ≤ 200) = false := decide_eq_false c2
 have c2b1 : decide (l0.length ≤ 200) = false := decide_eq_false (by omega)
 clear c2
 obtain rfl := Option.some.inj H
 go_enter Try.func55, Try.ntmps55
 go_wp2
 go_ret
 exact ⟨by first | rfl | (simp [eN_, eS_] <;> rfl) | (simp [*, eN_, eS_] <;> rfl), by repeat (first | (with_reducible first | exact HB.out | apply bA_ | apply bN_ | apply b1_) | exact HB.out)⟩
mutual
def isa_Late.j0 : Nat → Int → Bool → Option (Int)
  | 0, _, _ => none
  | k + 1, x3, x4 => if x4 = true then (some 2) else (if x3 = 20 then (isa_Late.j1 k x3 (x3 == 20)) else (isa_Late.j1 k x3 (x3 == 24)))
def isa_Late.j1 : Nat → Int → Bool → Option (Int)
  | 0, _, _ => none
  | k + 1, x3, x8 => if x8 = true then (some 3) else (if x3 = 16 then (isa_Late.j2 k (x3 == 16)) else (isa_Late.j2 k (x3 == 17)))
def isa_Late.j2 : Nat → Bool → Option (Int)
  | 0, _ => none
  | k + 1, x11 => if x11 = true then (some 4) else (some 1)
end
def isa_Late.f (k : Nat) (a0 : Int) : Option (Int) := if a0 = 14 then (isa_Late.j0 k a0 (a0 == 14)) else (if a0 = 15 then (isa_Late.j0 k a0 (a0 == 15)) else (isa_Late.j0 k a0 (a0 == 26)))
theorem isa_Late.mono_l : ∀ k, (∀ y0 y1, LeO (isa_Late.j0 k y0 y1) (isa_Late.j0 (k + 1) y0 y1)) ∧ (∀ y0 y1, LeO (isa_Late.j1 k y0 y1) (isa_Late.j1 (k + 1) y0 y1)) ∧ (∀ y0, LeO (isa_Late.j2 k y0) (isa_Late.j2 (k + 1) y0))
  | 0 => ⟨fun _ _ r h => by simp [isa_Late.j0] at h, fun _ _ r h => by simp [isa_Late.j1] at h, fun _ r h => by simp [isa_Late.j2] at h⟩
  | k + 1 => by
    obtain ⟨ih0, ih1, ih2⟩ := isa_Late.mono_l k
    refine ⟨?_, ?_, ?_⟩
    · intro y0 y1
      unfold isa_Late.j0
      repeat' first
      | (with_reducible exact ih0 _ _)
      | (with_reducible exact ih1 _ _)
      | (with_reducible exact ih2 _)
      | (with_reducible exact LeO.refl _)
      | (with_reducible exact LeO.none _)
      | (with_reducible refine LeO.ite ?_ ?_)
      | (with_reducible refine LeO.bind ?_ (fun _ => ?_))
      | exact LeO.none _
      | refine LeO.ite ?_ ?_
      | refine LeO.bind ?_ (fun _ => ?_)
    · intro y0 y1
      unfold isa_Late.j1
      repeat' first
      | (with_reducible exact ih0 _ _)
      | (with_reducible exact ih1 _ _)
      | (with_reducible exact ih2 _)
      | (with_reducible exact LeO.refl _)
      | (with_reducible exact LeO.none _)
      | (with_reducible refine LeO.ite ?_ ?_)
      | (with_reducible refine LeO.bind ?_ (fun _ => ?_))
      | exact LeO.none _
      | refine LeO.ite ?_ ?_
      | refine LeO.bind ?_ (fun _ => ?_)
    · intro y0
      unfold isa_Late.j2
      repeat' first
      | (with_reducible exact ih0 _ _)
      | (with_reducible exact ih1 _ _)
      | (with_reducible exact ih2 _)
      | (with_reducible exact LeO.refl _)
      | (with_reducible exact LeO.none _)
      | (with_reducible refine LeO.ite ?_ ?_)
      | (with_reducible refine LeO.bind ?_ (fun _ => ?_))
      | exact LeO.none _
      | refine LeO.ite ?_ ?_
      | refine LeO.bind ?_ (fun _ => ?_)
theorem isa_Late.mono : ∀ a0 k, LeO (isa_Late.f k a0) (isa_Late.f (k + 1) a0) := by
 intro a0 k
 obtain ⟨ih0, ih1, ih2⟩ := isa_Late.mono_l k
 unfold isa_Late.f
 repeat' first
  | (with_reducible exact ih0 _ _)
  | (with_reducible exact ih1 _ _)
  | (with_reducible exact ih2 _)
  | (with_reducible exact LeO.refl _)
  | (with_reducible exact LeO.none _)
  | (with_reducible refine LeO.ite ?_ ?_)
  | (with_reducible refine LeO.bind ?_ (fun _ => ?_))
  | exact LeO.none _
  | refine LeO.ite ?_ ?_
  | refine LeO.bind ?_ (fun _ => ?_)
set_option maxHeartbeats 8000000 in
set_option maxRecDepth 100000 in
theorem isa_Late.calls (k : Nat) (a0 : Int) (r : Int) (w : World) (h : isa_Late.f k a0 = some r) :
    Calls Try.prog 92 #[.int .i64 a0] w fun e w' => e = .returned (.int .i64 r) ∧ Dr_ w w' := by
 have H : (if a0 = 14 then (isa_Late.j0 k a0 (a0 == 14)) else (if a0 = 15 then (isa_Late.j0 k a0 (a0 == 15)) else (isa_Late.j0 k a0 (a0 == 26)))) = some r := h
 clear h
 have HC2 := As_.mk H
 clear H
 go_enter Try.func92, Try.ntmps92
 go_upto_if 4 with (fail)
 go_cut [4] (fun v4 wc => ∃ (kq : Nat) (x4_1 : Bool), v4 = .bool x4_1 ∧ As_ (isa_Late.j0 kq a0 x4_1 = some r) ∧ As_ (kq ≤ k) ∧ Dr_ w wc)
 case first =>
  have H := HC2.out
  clear HC2
  by_cases c3 : a0 = 14
  ·rw [if_pos c3] at H
   have c3b0 : (a0 == 14) = true := beq_iff_eq.mpr c3
   have c3b1 : (a0 != 14) = false := bne_eq_false_iff_eq.mpr c3
   clear c3
   (first | rw [c3b0] | (simp only [i64_w, i32_w]; rw [c3b0]) | skip)
   have H' := As_.mk H
   clear H
   go_wp2
   go_meet
   case rel => exact ⟨_, ((a0 == 14)), (by first | rfl | (simp; done) | (simp [*]; done) | (simp [wrap64]; done) | (congr 1; rw [Bool.eq_iff_iff]; simp; done)), H', ⟨by first | omega | exact Nat.le_refl _⟩, by repeat (first | exact Dr_.refl _ | apply Dr_.step)⟩
  rw [if_neg c3] at H
  have c3b0 : (a0 == 14) = false := beq_eq_false_iff_ne.mpr c3
  have c3b1 : (a0 != 14) = true := bne_iff_ne.mpr c3
  (first | rw [c3b0] | (simp only [i64_w, i32_w]; rw [c3b0]) | skip)
  by_cases c4 : a0 = 15
  ·rw [if_pos c4] at H
   have c4b0 : (a0 == 15) = true := beq_iff_eq.mpr c4
   have c4b1 : (a0 != 15) = false := bne_eq_false_iff_eq.mpr c4
   clear c4
   have H' := As_.mk H
   clear H
   go_wp2
   go_meet
   case rel => exact ⟨_, ((a0 == 15)), (by first | rfl | (simp; done) | (simp [*]; done) | (simp [wrap64]; done) | (congr 1; rw [Bool.eq_iff_iff]; simp; done)), H', ⟨by first | omega | exact Nat.le_refl _⟩, by repeat (first | exact Dr_.refl _ | apply Dr_.step)⟩
  rw [if_neg c4] at H
  have c4b0 : (a0 == 15) = false := beq_eq_false_iff_ne.mpr c4
  have c4b1 : (a0 != 15) = true := bne_iff_ne.mpr c4
  have H' := As_.mk H
  clear H
  go_wp2
  go_meet
  case rel => exact ⟨_, ((a0 == 26)), (by first | rfl | (simp; done) | (simp [*]; done) | (simp [wrap64]; done) | (congr 1; rw [Bool.eq_iff_iff]; simp; done)), H', ⟨by first | omega | exact Nat.le_refl _⟩, by repeat (first | exact Dr_.refl _ | apply Dr_.step)⟩
 case rest =>
  clear HC2
  obtain ⟨kq, x4_1, rfl, HA, HJ1, ⟨mc1, rfl⟩⟩ := hcut
  cases kq with
  | zero => exact absurd HA.out (by simp [isa_Late.j0])
  | succ kj1 =>
   have H := HA.out
   clear HA
   simp only [isa_Late.j0] at H
   by_cases c5 : x4_1 = true
   ·subst c5
    have H1 : (some 2) = some r := by rw [if_pos rfl] at H; exact H
    clear H
    have H := H1
    clear H1
    obtain rfl := Option.some.inj H
    go_wp2
    go_ret
    exact ⟨by first | rfl | (simp; done) | (simp [*]; done) | (simp [wrap64]; done) | (congr 1; rw [Bool.eq_iff_iff]; simp; done), by repeat (first | exact Dr_.refl _ | apply Dr_.step)⟩
   replace c5 := Bool.eq_false_iff.mpr c5
   subst c5
   have H1 : (if a0 = 20 then (isa_Late.j1 kj1 a0 (a0 == 20)) else (isa_Late.j1 kj1 a0 (a0 == 24))) = some r := by rw [if_neg (show ¬ (false = true) by decide)] at H; exact H
   clear H
   have H := H1
   clear H1
   have HC6 := As_.mk H
   clear H
   go_upto_if 8 with (fail)
   go_cut [8] (fun v8 wc => ∃ (kq : Nat) (x8_5 : Bool), v8 = .bool x8_5 ∧ As_ (isa_Late.j1 kq a0 x8_5 = some r) ∧ As_ (kq ≤ kj1) ∧ Dr_ w wc)
   case first =>
    have H := HC6.out
    clear HC6
    by_cases c7 : a0 = 20
    ·rw [if_pos c7] at H
     have c7b0 : (a0 == 20) = true := beq_iff_eq.mpr c7
     have c7b1 : (a0 != 20) = false := bne_eq_false_iff_eq.mpr c7
     clear c7
     (first | rw [c7b0] | (simp only [i64_w, i32_w]; rw [c7b0]) | skip)
     have H' := As_.mk H
     clear H
     go_wp2
     go_meet
     case rel => exact ⟨_, ((a0 == 20)), (by first | rfl | (simp; done) | (simp [*]; done) | (simp [wrap64]; done) | (congr 1; rw [Bool.eq_iff_iff]; simp; done)), H', ⟨by have := HJ1.out; first | omega | exact Nat.le_refl _⟩, by repeat (first | exact Dr_.refl _ | apply Dr_.step)⟩
    rw [if_neg c7] at H
    have c7b0 : (a0 == 20) = false := beq_eq_false_iff_ne.mpr c7
    have c7b1 : (a0 != 20) = true := bne_iff_ne.mpr c7
    (first | rw [c7b0] | (simp only [i64_w, i32_w]; rw [c7b0]) | skip)
    have H' := As_.mk H
    clear H
    go_wp2
    go_meet
    case rel => exact ⟨_, ((a0 == 24)), (by first | rfl | (simp; done) | (simp [*]; done) | (simp [wrap64]; done) | (congr 1; rw [Bool.eq_iff_iff]; simp; done)), H', ⟨by have := HJ1.out; first | omega | exact Nat.le_refl _⟩, by repeat (first | exact Dr_.refl _ | apply Dr_.step)⟩
   case rest =>
    clear HC6
    obtain ⟨kq, x8_5, rfl, HA, HJ5, ⟨mc5, rfl⟩⟩ := hcut
    cases kq with
    | zero => exact absurd HA.out (by simp [isa_Late.j1])
    | succ kj5 =>
     have H := HA.out
     clear HA
     simp only [isa_Late.j1] at H
     by_cases c8 : x8_5 = true
     ·subst c8
      have H1 : (some 3) = some r := by rw [if_pos rfl] at H; exact H
      clear H
      have H := H1
      clear H1
      obtain rfl := Option.some.inj H
      go_wp2
      go_ret
      exact ⟨by first | rfl | (simp; done) | (simp [*]; done) | (simp [wrap64]; done) | (congr 1; rw [Bool.eq_iff_iff]; simp; done), by repeat (first | exact Dr_.refl _ | apply Dr_.step)⟩
     replace c8 := Bool.eq_false_iff.mpr c8
     subst c8
     have H1 : (if a0 = 16 then (isa_Late.j2 kj5 (a0 == 16)) else (isa_Late.j2 kj5 (a0 == 17))) = some r := by rw [if_neg (show ¬ (false = true) by decide)] at H; exact H
     clear H
     have H := H1
     clear H1
     have HC9 := As_.mk H
     clear H
     go_upto_if 11 with (fail)
     go_cut [11] (fun v11 wc => ∃ (kq : Nat) (x11_8 : Bool), v11 = .bool x11_8 ∧ As_ (isa_Late.j2 kq x11_8 = some r) ∧ As_ (kq ≤ kj5) ∧ Dr_ w wc)
     case first =>
      have H := HC9.out
      clear HC9
      by_cases c10 : a0 = 16
      ·rw [if_pos c10] at H
       have c10b0 : (a0 == 16) = true := beq_iff_eq.mpr c10
       have c10b1 : (a0 != 16) = false := bne_eq_false_iff_eq.mpr c10
       clear c10
       (first | rw [c10b0] | (simp only [i64_w, i32_w]; rw [c10b0]) | skip)
       have H' := As_.mk H
       clear H
       go_wp2
       go_meet
       case rel => exact ⟨_, ((a0 == 16)), (by first | rfl | (simp; done) | (simp [*]; done) | (simp [wrap64]; done) | (congr 1; rw [Bool.eq_iff_iff]; simp; done)), H', ⟨by have := HJ1.out; have := HJ5.out; first | omega | exact Nat.le_refl _⟩, by repeat (first | exact Dr_.refl _ | apply Dr_.step)⟩
      rw [if_neg c10] at H
      have c10b0 : (a0 == 16) = false := beq_eq_false_iff_ne.mpr c10
      have c10b1 : (a0 != 16) = true := bne_iff_ne.mpr c10
      (first | rw [c10b0] | (simp only [i64_w, i32_w]; rw [c10b0]) | skip)
      have H' := As_.mk H
      clear H
      go_wp2
      go_meet
      case rel => exact ⟨_, ((a0 == 17)), (by first | rfl | (simp; done) | (simp [*]; done) | (simp [wrap64]; done) | (congr 1; rw [Bool.eq_iff_iff]; simp; done)), H', ⟨by have := HJ1.out; have := HJ5.out; first | omega | exact Nat.le_refl _⟩, by repeat (first | exact Dr_.refl _ | apply Dr_.step)⟩
     case rest =>
      clear HC9
      obtain ⟨kq, x11_8, rfl, HA, HJ8, ⟨mc8, rfl⟩⟩ := hcut
      cases kq with
      | zero => exact absurd HA.out (by simp [isa_Late.j2])
      | succ kj8 =>
       have H := HA.out
       clear HA
       simp only [isa_Late.j2] at H
       by_cases c11 : x11_8 = true
       ·subst c11
        have H1 : (some 4) = some r := by rw [if_pos rfl] at H; exact H
        clear H
        have H := H1
        clear H1
        obtain rfl := Option.some.inj H
        go_wp2
        go_ret
        exact ⟨by first | rfl | (simp; done) | (simp [*]; done) | (simp [wrap64]; done) | (congr 1; rw [Bool.eq_iff_iff]; simp; done), by repeat (first | exact Dr_.refl _ | apply Dr_.step)⟩
       replace c11 := Bool.eq_false_iff.mpr c11
       subst c11
       have H1 : (some 1) = some r := by rw [if_neg (show ¬ (false = true) by decide)] at H; exact H
       clear H
       have H := H1
       clear H1
       obtain rfl := Option.some.inj H
       go_wp2
       go_ret
       exact ⟨by first | rfl | (simp; done) | (simp [*]; done) | (simp [wrap64]; done) | (congr 1; rw [Bool.eq_iff_iff]; simp; done), by repeat (first | exact Dr_.refl _ | apply Dr_.step)⟩
def isa_Effect.j0 : Nat → Bool → Option (Bool)
  | 0, _ => none
  | k + 1, x4 => if x4 = true then (some true) else (some false)
def isa_Effect.f (k : Nat) (a0 : Int) : Option (Bool) := if a0 = 16 then (isa_Effect.j0 k (a0 == 16)) else (if a0 = 17 then (isa_Effect.j0 k (a0 == 17)) else (if a0 = 24 then (isa_Effect.j0 k (a0 == 24)) else (if a0 = 25 then (isa_Effect.j0 k (a0 == 25)) else (if a0 = 26 then (isa_Effect.j0 k (a0 == 26)) else (if a0 = 27 then (isa_Effect.j0 k (a0 == 27)) else (if a0 = 31 then (isa_Effect.j0 k (a0 == 31)) else (if a0 = 32 then (isa_Effect.j0 k (a0 == 32)) else (isa_Effect.j0 k (a0 == 33)))))))))
theorem isa_Effect.mono_l : ∀ k, (∀ y0, LeO (isa_Effect.j0 k y0) (isa_Effect.j0 (k + 1) y0))
  | 0 => fun _ r h => by simp [isa_Effect.j0] at h
  | k + 1 => by
    have ih0 := isa_Effect.mono_l k
    · intro y0
      unfold isa_Effect.j0
      repeat' first
      | (with_reducible exact ih0 _)
      | (with_reducible exact LeO.refl _)
      | (with_reducible exact LeO.none _)
      | (with_reducible refine LeO.ite ?_ ?_)
      | (with_reducible refine LeO.bind ?_ (fun _ => ?_))
      | exact LeO.none _
      | refine LeO.ite ?_ ?_
      | refine LeO.bind ?_ (fun _ => ?_)
theorem isa_Effect.mono : ∀ a0 k, LeO (isa_Effect.f k a0) (isa_Effect.f (k + 1) a0) := by
 intro a0 k
 have ih0 := isa_Effect.mono_l k
 unfold isa_Effect.f
 repeat' first
  | (with_reducible exact ih0 _)
  | (with_reducible exact LeO.refl _)
  | (with_reducible exact LeO.none _)
  | (with_reducible refine LeO.ite ?_ ?_)
  | (with_reducible refine LeO.bind ?_ (fun _ => ?_))
  | exact LeO.none _
  | refine LeO.ite ?_ ?_
  | refine LeO.bind ?_ (fun _ => ?_)
set_option maxHeartbeats 8000000 in
set_option maxRecDepth 100000 in
theorem isa_Effect.calls (k : Nat) (a0 : Int) (r : Bool) (w : World) (h : isa_Effect.f k a0 = some r) :
    Calls Try.prog 94 #[.int .i64 a0] w fun e w' => e = .returned (.bool r) ∧ Dr_ w w' := by
 have H : (if a0 = 16 then (isa_Effect.j0 k (a0 == 16)) else (if a0 = 17 then (isa_Effect.j0 k (a0 == 17)) else (if a0 = 24 then (isa_Effect.j0 k (a0 == 24)) else (if a0 = 25 then (isa_Effect.j0 k (a0 == 25)) else (if a0 = 26 then (isa_Effect.j0 k (a0 == 26)) else (if a0 = 27 then (isa_Effect.j0 k (a0 == 27)) else (if a0 = 31 then (isa_Effect.j0 k (a0 == 31)) else (if a0 = 32 then (isa_Effect.j0 k (a0 == 32)) else (isa_Effect.j0 k (a0 == 33)))))))))) = some r := h
 clear h
 have HC2 := As_.mk H
 clear H
 go_enter Try.func94, Try.ntmps94
 go_upto_if 4 with (fail)
 go_cut [4] (fun v4 wc => ∃ (kq : Nat) (x4_1 : Bool), v4 = .bool x4_1 ∧ As_ (isa_Effect.j0 kq x4_1 = some r) ∧ As_ (kq ≤ k) ∧ Dr_ w wc)
 case first =>
  have H := HC2.out
  clear HC2
  by_cases c3 : a0 = 16
  ·rw [if_pos c3] at H
   have c3b0 : (a0 == 16) = true := beq_iff_eq.mpr c3
   have c3b1 : (a0 != 16) = false := bne_eq_false_iff_eq.mpr c3
   clear c3
   (first | rw [c3b0] | (simp only [i64_w, i32_w]; rw [c3b0]) | skip)
   have H' := As_.mk H
   clear H
   go_wp2
   go_meet
   case rel => exact ⟨_, ((a0 == 16)), (by first | rfl | (simp; done) | (simp [*]; done) | (simp [wrap64]; done) | (congr 1; rw [Bool.eq_iff_iff]; simp; done)), H', ⟨by first | omega | exact Nat.le_refl _⟩, by repeat (first | exact Dr_.refl _ | apply Dr_.step)⟩
  rw [if_neg c3] at H
  have c3b0 : (a0 == 16) = false := beq_eq_false_iff_ne.mpr c3
  have c3b1 : (a0 != 16) = true := bne_iff_ne.mpr c3
  (first | rw [c3b0] | (simp only [i64_w, i32_w]; rw [c3b0]) | skip)
  by_cases c4 : a0 = 17
  ·rw [if_pos c4] at H
   have c4b0 : (a0 == 17) = true := beq_iff_eq.mpr c4
   have c4b1 : (a0 != 17) = false := bne_eq_false_iff_eq.mpr c4
   clear c4
   have H' := As_.mk H
   clear H
   go_wp2
   go_meet
   case rel => exact ⟨_, ((a0 == 17)), (by first | rfl | (simp; done) | (simp [*]; done) | (simp [wrap64]; done) | (congr 1; rw [Bool.eq_iff_iff]; simp; done)), H', ⟨by first | omega | exact Nat.le_refl _⟩, by repeat (first | exact Dr_.refl _ | apply Dr_.step)⟩
  rw [if_neg c4] at H
  have c4b0 : (a0 == 17) = false := beq_eq_false_iff_ne.mpr c4
  have c4b1 : (a0 != 17) = true := bne_iff_ne.mpr c4
  by_cases c5 : a0 = 24
  ·rw [if_pos c5] at H
   have c5b0 : (a0 == 24) = true := beq_iff_eq.mpr c5
   have c5b1 : (a0 != 24) = false := bne_eq_false_iff_eq.mpr c5
   clear c5
   have H' := As_.mk H
   clear H
   go_wp2
   go_meet
   case rel => exact ⟨_, ((a0 == 24)), (by first | rfl | (simp; done) | (simp [*]; done) | (simp [wrap64]; done) | (congr 1; rw [Bool.eq_iff_iff]; simp; done)), H', ⟨by first | omega | exact Nat.le_refl _⟩, by repeat (first | exact Dr_.refl _ | apply Dr_.step)⟩
  rw [if_neg c5] at H
  have c5b0 : (a0 == 24) = false := beq_eq_false_iff_ne.mpr c5
  have c5b1 : (a0 != 24) = true := bne_iff_ne.mpr c5
  by_cases c6 : a0 = 25
  ·rw [if_pos c6] at H
   have c6b0 : (a0 == 25) = true := beq_iff_eq.mpr c6
   have c6b1 : (a0 != 25) = false := bne_eq_false_iff_eq.mpr c6
   clear c6
   have H' := As_.mk H
   clear H
   go_wp2
   go_meet
   case rel => exact ⟨_, ((a0 == 25)), (by first | rfl | (simp; done) | (simp [*]; done) | (simp [wrap64]; done) | (congr 1; rw [Bool.eq_iff_iff]; simp; done)), H', ⟨by first | omega | exact Nat.le_refl _⟩, by repeat (first | exact Dr_.refl _ | apply Dr_.step)⟩
  rw [if_neg c6] at H
  have c6b0 : (a0 == 25) = false := beq_eq_false_iff_ne.mpr c6
  have c6b1 : (a0 != 25) = true := bne_iff_ne.mpr c6
  by_cases c7 : a0 = 26
  ·rw [if_pos c7] at H
   have c7b0 : (a0 == 26) = true := beq_iff_eq.mpr c7
   have c7b1 : (a0 != 26) = false := bne_eq_false_iff_eq.mpr c7
   clear c7
   have H' := As_.mk H
   clear H
   go_wp2
   go_meet
   case rel => exact ⟨_, ((a0 == 26)), (by first | rfl | (simp; done) | (simp [*]; done) | (simp [wrap64]; done) | (congr 1; rw [Bool.eq_iff_iff]; simp; done)), H', ⟨by first | omega | exact Nat.le_refl _⟩, by repeat (first | exact Dr_.refl _ | apply Dr_.step)⟩
  rw [if_neg c7] at H
  have c7b0 : (a0 == 26) = false := beq_eq_false_iff_ne.mpr c7
  have c7b1 : (a0 != 26) = true := bne_iff_ne.mpr c7
  by_cases c8 : a0 = 27
  ·rw [if_pos c8] at H
   have c8b0 : (a0 == 27) = true := beq_iff_eq.mpr c8
   have c8b1 : (a0 != 27) = false := bne_eq_false_iff_eq.mpr c8
   clear c8
   have H' := As_.mk H
   clear H
   go_wp2
   go_meet
   case rel => exact ⟨_, ((a0 == 27)), (by first | rfl | (simp; done) | (simp [*]; done) | (simp [wrap64]; done) | (congr 1; rw [Bool.eq_iff_iff]; simp; done)), H', ⟨by first | omega | exact Nat.le_refl _⟩, by repeat (first | exact Dr_.refl _ | apply Dr_.step)⟩
  rw [if_neg c8] at H
  have c8b0 : (a0 == 27) = false := beq_eq_false_iff_ne.mpr c8
  have c8b1 : (a0 != 27) = true := bne_iff_ne.mpr c8
  by_cases c9 : a0 = 31
  ·rw [if_pos c9] at H
   have c9b0 : (a0 == 31) = true := beq_iff_eq.mpr c9
   have c9b1 : (a0 != 31) = false := bne_eq_false_iff_eq.mpr c9
   clear c9
   have H' := As_.mk H
   clear H
   go_wp2
   go_meet
   case rel => exact ⟨_, ((a0 == 31)), (by first | rfl | (simp; done) | (simp [*]; done) | (simp [wrap64]; done) | (congr 1; rw [Bool.eq_iff_iff]; simp; done)), H', ⟨by first | omega | exact Nat.le_refl _⟩, by repeat (first | exact Dr_.refl _ | apply Dr_.step)⟩
  rw [if_neg c9] at H
  have c9b0 : (a0 == 31) = false := beq_eq_false_iff_ne.mpr c9
  have c9b1 : (a0 != 31) = true := bne_iff_ne.mpr c9
  by_cases c10 : a0 = 32
  ·rw [if_pos c10] at H
   have c10b0 : (a0 == 32) = true := beq_iff_eq.mpr c10
   have c10b1 : (a0 != 32) = false := bne_eq_false_iff_eq.mpr c10
   clear c10
   have H' := As_.mk H
   clear H
   go_wp2
   go_meet
   case rel => exact ⟨_, ((a0 == 32)), (by first | rfl | (simp; done) | (simp [*]; done) | (simp [wrap64]; done) | (congr 1; rw [Bool.eq_iff_iff]; simp; done)), H', ⟨by first | omega | exact Nat.le_refl _⟩, by repeat (first | exact Dr_.refl _ | apply Dr_.step)⟩
  rw [if_neg c10] at H
  have c10b0 : (a0 == 32) = false := beq_eq_false_iff_ne.mpr c10
  have c10b1 : (a0 != 32) = true := bne_iff_ne.mpr c10
  have H' := As_.mk H
  clear H
  go_wp2
  go_meet
  case rel => exact ⟨_, ((a0 == 33)), (by first | rfl | (simp; done) | (simp [*]; done) | (simp [wrap64]; done) | (congr 1; rw [Bool.eq_iff_iff]; simp; done)), H', ⟨by first | omega | exact Nat.le_refl _⟩, by repeat (first | exact Dr_.refl _ | apply Dr_.step)⟩
 case rest =>
  clear HC2
  obtain ⟨kq, x4_1, rfl, HA, HJ1, ⟨mc1, rfl⟩⟩ := hcut
  cases kq with
  | zero => exact absurd HA.out (by simp [isa_Effect.j0])
  | succ kj1 =>
   have H := HA.out
   clear HA
   simp only [isa_Effect.j0] at H
   by_cases c11 : x4_1 = true
   ·subst c11
    have H1 : (some true) = some r := by rw [if_pos rfl] at H; exact H
    clear H
    have H := H1
    clear H1
    obtain rfl := Option.some.inj H
    go_wp2
    go_ret
    exact ⟨by first | rfl | (simp; done) | (simp [*]; done) | (simp [wrap64]; done) | (congr 1; rw [Bool.eq_iff_iff]; simp; done), by repeat (first | exact Dr_.refl _ | apply Dr_.step)⟩
   replace c11 := Bool.eq_false_iff.mpr c11
   subst c11
   have H1 : (some false) = some r := by rw [if_neg (show ¬ (false = true) by decide)] at H; exact H
   clear H
   have H := H1
   clear H1
   obtain rfl := Option.some.inj H
   go_wp2
   go_ret
   exact ⟨by first | rfl | (simp; done) | (simp [*]; done) | (simp [wrap64]; done) | (congr 1; rw [Bool.eq_iff_iff]; simp; done), by repeat (first | exact Dr_.refl _ | apply Dr_.step)⟩
end Go.Proofs.Ytibfkkjkahpobaa.PDag
