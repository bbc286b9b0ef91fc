-- the texts that this claim needs, out of this session's and its print's (wip/shrink.py)
import Derived.Test.YtfnchdlgkkdegaaBackLaw0T
set_option linter.unusedVariables false
set_option linter.unusedSimpArgs false
namespace Go.Proofs.Ytfnchdlgkkdegaa.PAll
open Go.RowKit Go.Proofs.YtfnchdlgkkdegaaW.PrintWords Go.Proofs.YtfnchdlgkkdegaaW.PrintLast Go.Proofs.YtfnchdlgkkdegaaW.PrintMore
attribute [local go_sem] Oper.semAt_some
theorem run_index {b : S52} {s : Nat} (hs : s < 4) (W : World) : (Instr.index 52 (.agg (bunC b).toArray) (.int .i64 (s : Int))).run Try.prog W = .ok (.agg (insC (get52 b s)).toArray) W := by
  have h : s = 0 ∨ s = 1 ∨ s = 2 ∨ s = 3 := by omega
  obtain ⟨i0, hi0, hz⟩ := Option.map_eq_some_iff.1 info35
  simp only [Prod.mk.injEq] at hz
  rcases h with rfl | rfl | rfl | rfl
  all_goals
    simp [Instr.index, asIntOf, run_underlying Try.underlying52, part, isAgg, run_underlying Try.underlying35, sizeOf, typeInfo, hi0, hz.2.1, Result.andThen]
    try rfl
section
variable {P : Program} {o : Oper} {a : Act} {W w1 : World} {t : TypeId} {x ix : Operand} {u v r : Value}
theorem exec_index (hop : o.op = .index t x ix) (h1 : a.eval x = u) (h2 : a.eval ix = v) (h : (Instr.index t u v).run P W = .ok r W) : (execOp a.eval o).run P W = .ok (.value r) W := by
  simp [execOp, hop, h1, h2, h, Result.andThen]
theorem exec_box (hop : o.op = .box t x) (h1 : a.eval x = u) (h : (Instr.box t u).run P W = .ok r w1) : (execOp a.eval o).run P W = .ok (.value r) w1 := by
  simp [execOp, hop, h1, h, Result.andThen]
end
theorem box_run (X : List Value) (t : TypeId) (W : World) : (Instr.box t (.agg X.toArray)).run Try.prog W = .ok (.pointer (some ⟨W.heap.size, 0, none⟩)) (W.alloc (.cells X.toArray t (0, 0))) := by
  simp [Instr.box, newVar, newRow, Result.andThen, Value.cells]
def okB (b : S52) (j : Nat) : Bool := insOk (get52 b j).f0 (get52 b j).f1 (get52 b j).f2 (get52 b j).f3 (get52 b j).f4 (get52 b j).f5 && mayOp (get52 b j).f0 j
def isBun (b : S52) : Nat → Bool
  | 0 => true
  | j + 1 => isBun b j && okB b j
def bareAt (b : S52) (j : Nat) : Bool := decide ((get52 b j).f5.toList = [])
def bareB (b : S52) : Nat → Bool
  | 0 => true
  | j + 1 => bareB b j && bareAt b j
theorem isBun_not (b : S52) (j : Nat) (h : okB b j = false) : ∀ n, j < n → isBun b n = false
  | n + 1, hn => by
    rw [isBun]
    by_cases e : j = n
    · subst e; rw [h, Bool.and_false]
    · rw [isBun_not b j h n (by omega), Bool.false_and]
theorem bareB_not (b : S52) (j : Nat) (h : bareAt b j = false) : ∀ n, j < n → bareB b n = false
  | n + 1, hn => by
    rw [bareB]
    by_cases e : j = n
    · subst e; rw [h, Bool.and_false]
    · rw [bareB_not b j h n (by omega), Bool.false_and]
theorem okI_op {x : S35} (h : insOk x.f0 x.f1 x.f2 x.f3 x.f4 x.f5 = true) : 0 ≤ x.f0 ∧ x.f0 ≤ 33 := (ins_parts h).1
theorem insok_calls (x : S35) (w : World) : Calls Try.prog 28 #[.agg (insC x).toArray] w fun e w' => e = .returned (.bool (insOk x.f0 x.f1 x.f2 x.f3 x.f4 x.f5)) ∧ Below w.heap.size w w' :=
  isa_IsIns.calls 50 x.f0 x.f1 x.f2 x.f3 x.f4 x.f5 _ w (isa_ins_eq (Nat.le_refl _) _ _ _ _ _ _)
set_option maxRecDepth 100000 in
set_option maxHeartbeats 8000000 in
theorem isbun_calls (b : S52) (w : World) :
    Calls Try.prog 48 #[.agg (bunC b).toArray] w fun e w' => e = .returned (.bool (isBun b 4)) ∧ Below w.heap.size w w' := by
  have hu52 := Try.underlying52
  have hu35 := Try.underlying35
  go_enter Try.func48, Try.ntmps48
  go_wp2_with (first | ((with_reducible refine gate_dst (N := 1) rfl ?_); refine box_event ?hg (N := 1) ?hd (cs := (bunC b).toArray) (t := 52) ?hr ?_; (case hd => rfl); (case hg => rfl); (case hr => exact exec_box rfl rfl (box_run _ _ _)); intro g1 hg1 w1 hbox hb; have BK1 := As_.mk hbox; have HB1 := As_.mk hb; clear hbox hb hg1) | ((with_reducible refine gate_dst (N := 5) rfl ?_); refine val_event (N := 5) (w1 := w1) (v := .agg (bunC b).toArray) ?hg ?hd ?hr ?_; (case hd => rfl); (case hg => rfl); (case hr => exact exec_load rfl rfl (load52 BK1.out))))
  go_loopw [6] (fun i wr => ∃ j : Nat, j ≤ 4 ∧ i = .int .i64 j ∧ As_ (isBun b j = true) ∧ As_ (Below w.heap.size w wr)) (fun i _ => 4 - (intOf i).toNat)
  case atStart => exact ⟨0, Nat.zero_le _, rfl, ⟨rfl⟩, ⟨HB1.out⟩⟩
  case round =>
    clear HB1 BK1
    obtain ⟨j, hj, rfl, HO, HB⟩ := hrel
    by_cases hlt : j < 4
    · have p1 : ((0 : Int) ≤ (j : Int)) = True := eq_true (Int.natCast_nonneg _)
      have q1 : ((j : Int) < 4) = True := eq_true (by omega)
      have q2 : (j < 4) = True := eq_true hlt
      have HLT := As_.mk hlt
      have hw2 : wrap64 ((j : Int) + 1) = ((j + 1 : Nat) : Int) := by unfold wrap64; omega
      clear hlt hj
      have HIX := As_.mk (run_index (b := b) HLT.out wr)
      generalize hx : get52 b j = x at HIX
      have HX := As_.mk hx
      clear hx
      have HI := As_.mk (fun W => insok_calls x W)
      cases hI : insOk x.f0 x.f1 x.f2 x.f3 x.f4 x.f5 with
      | false =>
        rw [hI] at HI
        have HN := As_.mk (isBun_not b j (by unfold okB; rw [HX.out, hI]; rfl) 4 HLT.out)
        clear hI
        go_wp2_with (first | ((with_reducible refine gate_dst (N := 9) rfl ?_); refine val_event (N := 9) (w1 := wr) (v := .agg (insC x).toArray) ?hg ?hd ?hr ?_; (case hd => rfl); (case hg => rfl); (case hr => exact exec_index rfl rfl rfl HIX.out)) | ((with_reducible refine gate_dst (N := 4) rfl ?_); refine box_event ?hg (N := 4) ?hd (cs := (insC z35).toArray) (t := 35) ?hr ?_; (case hd => rfl); (case hg => rfl); (case hr => first | (go_simp; done) | (go_simp; rfl)); intro g4 hg4 w4 hbox hb; have HB4 := As_.mk (HB.out.trans (hb.mono HB.out.size)); have BK4 := As_.mk hbox; have G4 := As_.mk (show w.heap.size ≤ g4 from by rw [hg4]; exact HB.out.size); clear hbox hb hg4) | ((with_reducible refine gate_store (t := 35) (p := 4) rfl ?_); obtain ⟨h7a, h7b⟩ := box35 BK4.out x; have H7A := As_.mk h7a; have H7B := As_.mk h7b; clear h7a h7b; refine store_event (t := 35) (p := 4) (v := .tmp 9) (w1 := w4.setCells g4 0 (insC x)) ?hg ?ho ?hn ?hr ?_; (case ho => rfl); (case hg => rfl); (case hn => rfl); (case hr => exact exec_store rfl rfl rfl H7B.out); intro w5 hw_; have BK5 := As_.mk (at_ hw_ H7A.out); have HB5 := As_.mk (bset_ hw_ HB4.out HB4.out.size G4.out); clear hw_ H7A H7B) | ((with_reducible refine gate_dst (N := 10) rfl ?_); refine val_event (N := 10) (w1 := w5) (v := .agg (insC x).toArray) ?hg ?hd ?hr ?_; (case hd => rfl); (case hg => rfl); (case hr => exact exec_load rfl rfl (load35 BK5.out))) | (go_at_call 28; refine (HI.out _).mono ?_; rintro e w6 ⟨rfl, hb⟩; have HB6 := As_.mk (HB5.out.trans (hb.mono HB5.out.size)); skip; clear hb))
        go_ret
        exact ⟨by rw [HN.out]; rfl, HB6.out⟩
      | true =>
        rw [hI] at HI
        have hop := okI_op hI
        have HM := As_.mk (fun W => isa_May.calls 10 x.f0 (j : Int) _ W (may_op_eq (Nat.le_refl _) _ _ hop.1 hop.2 (Int.natCast_nonneg _) (by have := HLT.out; omega)))
        have HII := As_.mk hI
        clear hI hop
        cases hM : mayOp x.f0 (j : Int) with
        | false =>
          rw [hM] at HM
          have HN := As_.mk (isBun_not b j (by unfold okB; rw [HX.out, hM, Bool.and_false]) 4 HLT.out)
          clear hM
          go_wp2_with (first | ((with_reducible refine gate_dst (N := 9) rfl ?_); refine val_event (N := 9) (w1 := wr) (v := .agg (insC x).toArray) ?hg ?hd ?hr ?_; (case hd => rfl); (case hg => rfl); (case hr => exact exec_index rfl rfl rfl HIX.out)) | ((with_reducible refine gate_dst (N := 4) rfl ?_); refine box_event ?hg (N := 4) ?hd (cs := (insC z35).toArray) (t := 35) ?hr ?_; (case hd => rfl); (case hg => rfl); (case hr => first | (go_simp; done) | (go_simp; rfl)); intro g4 hg4 w4 hbox hb; have HB4 := As_.mk (HB.out.trans (hb.mono HB.out.size)); have BK4 := As_.mk hbox; have G4 := As_.mk (show w.heap.size ≤ g4 from by rw [hg4]; exact HB.out.size); clear hbox hb hg4) | ((with_reducible refine gate_store (t := 35) (p := 4) rfl ?_); obtain ⟨h7a, h7b⟩ := box35 BK4.out x; have H7A := As_.mk h7a; have H7B := As_.mk h7b; clear h7a h7b; refine store_event (t := 35) (p := 4) (v := .tmp 9) (w1 := w4.setCells g4 0 (insC x)) ?hg ?ho ?hn ?hr ?_; (case ho => rfl); (case hg => rfl); (case hn => rfl); (case hr => exact exec_store rfl rfl rfl H7B.out); intro w5 hw_; have BK5 := As_.mk (at_ hw_ H7A.out); have HB5 := As_.mk (bset_ hw_ HB4.out HB4.out.size G4.out); clear hw_ H7A H7B) | ((with_reducible refine gate_dst (N := 10) rfl ?_); refine val_event (N := 10) (w1 := w5) (v := .agg (insC x).toArray) ?hg ?hd ?hr ?_; (case hd => rfl); (case hg => rfl); (case hr => exact exec_load rfl rfl (load35 BK5.out))) | (go_at_call 28; refine (HI.out _).mono ?_; rintro e w6 ⟨rfl, hb⟩; have HB6 := As_.mk (HB5.out.trans (hb.mono HB5.out.size)); have y0 : w6.cell? ⟨g4, 0, none⟩ = some (.int .i64 x.f0) := (bC_ (kB_ BK5.out hb) 0).trans rfl; clear hb) | (go_at_call 45; refine (HM.out _).mono ?_; rintro e w7 ⟨rfl, ⟨nd, rfl⟩⟩; have HB7 := As_.mk (bN_ HB6.out nd)))
          go_ret
          exact ⟨by rw [HN.out]; rfl, HB7.out⟩
        | true =>
          rw [hM] at HM
          have HN := As_.mk (show isBun b (j + 1) = true from by rw [isBun, HO.out, Bool.true_and]; unfold okB; rw [HX.out, HII.out, hM]; rfl)
          clear hM
          go_wp2_with (first | ((with_reducible refine gate_dst (N := 9) rfl ?_); refine val_event (N := 9) (w1 := wr) (v := .agg (insC x).toArray) ?hg ?hd ?hr ?_; (case hd => rfl); (case hg => rfl); (case hr => exact exec_index rfl rfl rfl HIX.out)) | ((with_reducible refine gate_dst (N := 4) rfl ?_); refine box_event ?hg (N := 4) ?hd (cs := (insC z35).toArray) (t := 35) ?hr ?_; (case hd => rfl); (case hg => rfl); (case hr => first | (go_simp; done) | (go_simp; rfl)); intro g4 hg4 w4 hbox hb; have HB4 := As_.mk (HB.out.trans (hb.mono HB.out.size)); have BK4 := As_.mk hbox; have G4 := As_.mk (show w.heap.size ≤ g4 from by rw [hg4]; exact HB.out.size); clear hbox hb hg4) | ((with_reducible refine gate_store (t := 35) (p := 4) rfl ?_); obtain ⟨h7a, h7b⟩ := box35 BK4.out x; have H7A := As_.mk h7a; have H7B := As_.mk h7b; clear h7a h7b; refine store_event (t := 35) (p := 4) (v := .tmp 9) (w1 := w4.setCells g4 0 (insC x)) ?hg ?ho ?hn ?hr ?_; (case ho => rfl); (case hg => rfl); (case hn => rfl); (case hr => exact exec_store rfl rfl rfl H7B.out); intro w5 hw_; have BK5 := As_.mk (at_ hw_ H7A.out); have HB5 := As_.mk (bset_ hw_ HB4.out HB4.out.size G4.out); clear hw_ H7A H7B) | ((with_reducible refine gate_dst (N := 10) rfl ?_); refine val_event (N := 10) (w1 := w5) (v := .agg (insC x).toArray) ?hg ?hd ?hr ?_; (case hd => rfl); (case hg => rfl); (case hr => exact exec_load rfl rfl (load35 BK5.out))) | (go_at_call 28; refine (HI.out _).mono ?_; rintro e w6 ⟨rfl, hb⟩; have HB6 := As_.mk (HB5.out.trans (hb.mono HB5.out.size)); have y0 : w6.cell? ⟨g4, 0, none⟩ = some (.int .i64 x.f0) := (bC_ (kB_ BK5.out hb) 0).trans rfl; clear hb) | (go_at_call 45; refine (HM.out _).mono ?_; rintro e w7 ⟨rfl, ⟨nd, rfl⟩⟩; have HB7 := As_.mk (bN_ HB6.out nd)))
          refine ⟨⟨j + 1, by have := HLT.out; omega, by congr 1, ⟨HN.out⟩, ⟨HB7.out⟩⟩, ?_⟩
          rw [hw2]
          show 4 - (((j + 1 : Nat) : Int)).toNat < 4 - ((j : Nat) : Int).toNat
          rw [Int.toNat_natCast, Int.toNat_natCast]
          have := HLT.out
          omega
    · obtain rfl : j = 4 := by omega
      have q1 : (((4 : Nat) : Int) < 4) = False := eq_false (by omega)
      clear hlt hj
      go_wp2
      go_ret
      exact ⟨by rw [HO.out]; rfl, HB.out⟩
set_option maxRecDepth 100000 in
set_option maxHeartbeats 8000000 in
theorem bare_calls (b : S52) (w : World) :
    Calls Try.prog 49 #[.agg (bunC b).toArray] w fun e w' => e = .returned (.bool (bareB b 4)) ∧ Below w.heap.size w w' := by
  have hu52 := Try.underlying52
  have hu35 := Try.underlying35
  go_enter Try.func49, Try.ntmps49
  go_wp2_with (first | ((with_reducible refine gate_dst (N := 1) rfl ?_); refine box_event ?hg (N := 1) ?hd (cs := (bunC b).toArray) (t := 52) ?hr ?_; (case hd => rfl); (case hg => rfl); (case hr => exact exec_box rfl rfl (box_run _ _ _)); intro g1 hg1 w1 hbox hb; have BK1 := As_.mk hbox; have HB1 := As_.mk hb; clear hbox hb hg1) | ((with_reducible refine gate_dst (N := 5) rfl ?_); refine val_event (N := 5) (w1 := w1) (v := .agg (bunC b).toArray) ?hg ?hd ?hr ?_; (case hd => rfl); (case hg => rfl); (case hr => exact exec_load rfl rfl (load52 BK1.out))))
  go_loopw [6] (fun i wr => ∃ j : Nat, j ≤ 4 ∧ i = .int .i64 j ∧ As_ (bareB b j = true) ∧ As_ (Below w.heap.size w wr)) (fun i _ => 4 - (intOf i).toNat)
  case atStart => exact ⟨0, Nat.zero_le _, rfl, ⟨rfl⟩, ⟨HB1.out⟩⟩
  case round =>
    clear HB1 BK1
    obtain ⟨j, hj, rfl, HO, HB⟩ := hrel
    by_cases hlt : j < 4
    · have p1 : ((0 : Int) ≤ (j : Int)) = True := eq_true (Int.natCast_nonneg _)
      have q1 : ((j : Int) < 4) = True := eq_true (by omega)
      have q2 : (j < 4) = True := eq_true hlt
      have HLT := As_.mk hlt
      have hw2 : wrap64 ((j : Int) + 1) = ((j + 1 : Nat) : Int) := by unfold wrap64; omega
      clear hlt hj
      have HIX := As_.mk (run_index (b := b) HLT.out wr)
      generalize hx : get52 b j = x at HIX
      have HX := As_.mk hx
      clear hx
      by_cases hs : x.f5.toList = []
      · have c1 : x.f5.toList.isEmpty = true := by rw [hs]; rfl
        have c2 : (!x.f5.toList.isEmpty) = false := by rw [hs]; rfl
        have HN := As_.mk (show bareB b (j + 1) = true from by rw [bareB, HO.out, Bool.true_and]; unfold bareAt; rw [HX.out]; exact decide_eq_true hs)
        have HSS := As_.mk hs
        clear c1 c2
        go_wp2_with (first | ((with_reducible refine gate_dst (N := 8) rfl ?_); refine val_event (N := 8) (w1 := wr) (v := .agg (insC x).toArray) ?hg ?hd ?hr ?_; (case hd => rfl); (case hg => rfl); (case hr => exact exec_index rfl rfl rfl HIX.out)) | ((with_reducible refine gate_dst (N := 4) rfl ?_); refine box_event ?hg (N := 4) ?hd (cs := (insC z35).toArray) (t := 35) ?hr ?_; (case hd => rfl); (case hg => rfl); (case hr => first | (go_simp; done) | (go_simp; rfl)); intro g4 hg4 w4 hbox hb; have HB4 := As_.mk (HB.out.trans (hb.mono HB.out.size)); have BK4 := As_.mk hbox; have G4 := As_.mk (show w.heap.size ≤ g4 from by rw [hg4]; exact HB.out.size); clear hbox hb hg4) | ((with_reducible refine gate_store (t := 35) (p := 4) rfl ?_); obtain ⟨h7a, h7b⟩ := box35 BK4.out x; have H7A := As_.mk h7a; have H7B := As_.mk h7b; clear h7a h7b; refine store_event (t := 35) (p := 4) (v := .tmp 8) (w1 := w4.setCells g4 0 (insC x)) ?hg ?ho ?hn ?hr ?_; (case ho => rfl); (case hg => rfl); (case hn => rfl); (case hr => exact exec_store rfl rfl rfl H7B.out); intro w5 hw_; have BK5 := As_.mk (at_ hw_ H7A.out); have HB5 := As_.mk (bset_ hw_ HB4.out HB4.out.size G4.out); have y5 : w5.cell? ⟨g4, 5, none⟩ = some (.string x.f5) := (bC_ BK5.out 5).trans rfl; clear hw_ H7A H7B))
        refine ⟨⟨j + 1, by have := HLT.out; omega, by congr 1, ⟨HN.out⟩, ⟨HB5.out⟩⟩, ?_⟩
        rw [hw2]
        show 4 - (((j + 1 : Nat) : Int)).toNat < 4 - ((j : Nat) : Int).toNat
        rw [Int.toNat_natCast, Int.toNat_natCast]
        have := HLT.out
        omega
      · have HN := As_.mk (bareB_not b j (by unfold bareAt; rw [HX.out]; exact decide_eq_false hs) 4 HLT.out)
        have c1 : x.f5.toList.isEmpty = false := by cases h_ : x.f5.toList with | nil => exact absurd h_ hs | cons _ _ => rfl
        go_wp2_with (first | ((with_reducible refine gate_dst (N := 8) rfl ?_); refine val_event (N := 8) (w1 := wr) (v := .agg (insC x).toArray) ?hg ?hd ?hr ?_; (case hd => rfl); (case hg => rfl); (case hr => exact exec_index rfl rfl rfl HIX.out)) | ((with_reducible refine gate_dst (N := 4) rfl ?_); refine box_event ?hg (N := 4) ?hd (cs := (insC z35).toArray) (t := 35) ?hr ?_; (case hd => rfl); (case hg => rfl); (case hr => first | (go_simp; done) | (go_simp; rfl)); intro g4 hg4 w4 hbox hb; have HB4 := As_.mk (HB.out.trans (hb.mono HB.out.size)); have BK4 := As_.mk hbox; have G4 := As_.mk (show w.heap.size ≤ g4 from by rw [hg4]; exact HB.out.size); clear hbox hb hg4) | ((with_reducible refine gate_store (t := 35) (p := 4) rfl ?_); obtain ⟨h7a, h7b⟩ := box35 BK4.out x; have H7A := As_.mk h7a; have H7B := As_.mk h7b; clear h7a h7b; refine store_event (t := 35) (p := 4) (v := .tmp 8) (w1 := w4.setCells g4 0 (insC x)) ?hg ?ho ?hn ?hr ?_; (case ho => rfl); (case hg => rfl); (case hn => rfl); (case hr => exact exec_store rfl rfl rfl H7B.out); intro w5 hw_; have BK5 := As_.mk (at_ hw_ H7A.out); have HB5 := As_.mk (bset_ hw_ HB4.out HB4.out.size G4.out); have y5 : w5.cell? ⟨g4, 5, none⟩ = some (.string x.f5) := (bC_ BK5.out 5).trans rfl; clear hw_ H7A H7B))
        go_ret
        exact ⟨by rw [HN.out]; rfl, HB5.out⟩
    · obtain rfl : j = 4 := by omega
      have q1 : (((4 : Nat) : Int) < 4) = False := eq_false (by omega)
      clear hlt hj
      go_wp2
      go_ret
      exact ⟨by rw [HO.out]; rfl, HB.out⟩
theorem isBun_at (b : S52) : ∀ n, isBun b n = true → ∀ j, j < n → okB b j = true
  | n + 1, h, j, hj => by
    rw [isBun, Bool.and_eq_true] at h
    by_cases e : j = n
    · rw [e]; exact h.2
    · exact isBun_at b n h.1 j (by omega)
def wl (b : S52) : Nat → List Int
  | 0 => []
  | j + 1 => wl b j ++ [wordX (get52 b j)]
theorem wl_len (b : S52) : ∀ n, (wl b n).length = n
  | 0 => rfl
  | n + 1 => by rw [wl, List.length_append, wl_len b n]; rfl
def wdE (b : S52) : Int := if isBun b 4 = true then (if bareB b 4 = true then 0 else 6) else 1
def wdL (b : S52) : List Int := if isBun b 4 = true ∧ bareB b 4 = true then wl b 4 else []
theorem pack_calls (x : S35) (h : insOk x.f0 x.f1 x.f2 x.f3 x.f4 x.f5 = true) (w : World) : Calls Try.prog 29 #[.agg (insC x).toArray] w fun e w' => e = .returned (.int .u32 (wordX x)) ∧ Below w.heap.size w w' :=
  bits_Pack.calls 20 x.f0 x.f1 x.f2 x.f3 x.f4 x.f5 _ w (pack_eq (Nat.le_refl _) _ _ _ _ _ _ (okI_op h).1 (okI_op h).2)
set_option maxRecDepth 100000 in
set_option maxHeartbeats 8000000 in
theorem words_calls (b : S52) (w : World) :
    Calls Try.prog 23 #[.agg (bunC b).toArray] w fun e w' => ∃ v0 : Value, e = .returned (.tuple #[v0, .int .i64 (wdE b)]) ∧ Kd.R (Kd.int .u32) 33 w' w.heap.size (fun _ => True) v0 (wdL b) ∧ Below w.heap.size w w' := by
  have hu52 := Try.underlying52
  have hu35 := Try.underlying35
  have HIB := As_.mk (fun W => isbun_calls b W)
  have HBR := As_.mk (fun W => bare_calls b W)
  cases hi : isBun b 4 with
  | false =>
    rw [hi] at HIB
    have HII := As_.mk hi
    clear hi
    go_enter Try.func23, Try.ntmps23
    go_wp2_with (first | ((with_reducible refine gate_dst (N := 1) rfl ?_); refine box_event ?hg (N := 1) ?hd (cs := (bunC b).toArray) (t := 52) ?hr ?_; (case hd => rfl); (case hg => rfl); (case hr => exact exec_box rfl rfl (box_run _ _ _)); intro g1 hg1 w1 hbox hb; have BK1 := As_.mk hbox; have HB1 := As_.mk hb; clear hbox hb hg1) | ((with_reducible refine gate_dst (N := 8) rfl ?_); refine val_event (N := 8) (w1 := w1) (v := .agg (bunC b).toArray) ?hg ?hd ?hr ?_; (case hd => rfl); (case hg => rfl); (case hr => exact exec_load rfl rfl (load52 BK1.out))) | (go_at_call 48; refine (HIB.out _).mono ?_; rintro e w2 ⟨rfl, hb⟩; have HB2 := As_.mk (HB1.out.trans (hb.mono HB1.out.size)); have BK2 := As_.mk (kB_ BK1.out hb); clear hb))
    go_ret2
    refine ⟨_, by unfold wdE; rw [HII.out]; rfl, ?_, HB2.out⟩
    unfold wdL
    rw [HII.out, if_neg (by simp)]
    exact Kd.R_nil _ _ _ _ _
  | true =>
    rw [hi] at HIB
    have HII := As_.mk hi
    clear hi
    cases hb : bareB b 4 with
    | false =>
      rw [hb] at HBR
      have HBB := As_.mk hb
      clear hb
      go_enter Try.func23, Try.ntmps23
      go_wp2_with (first | ((with_reducible refine gate_dst (N := 1) rfl ?_); refine box_event ?hg (N := 1) ?hd (cs := (bunC b).toArray) (t := 52) ?hr ?_; (case hd => rfl); (case hg => rfl); (case hr => exact exec_box rfl rfl (box_run _ _ _)); intro g1 hg1 w1 hbox hb; have BK1 := As_.mk hbox; have HB1 := As_.mk hb; clear hbox hb hg1) | ((with_reducible refine gate_dst (N := 8) rfl ?_); refine val_event (N := 8) (w1 := w1) (v := .agg (bunC b).toArray) ?hg ?hd ?hr ?_; (case hd => rfl); (case hg => rfl); (case hr => exact exec_load rfl rfl (load52 BK1.out))) | (go_at_call 48; refine (HIB.out _).mono ?_; rintro e w2 ⟨rfl, hb⟩; have HB2 := As_.mk (HB1.out.trans (hb.mono HB1.out.size)); have BK2 := As_.mk (kB_ BK1.out hb); clear hb) | ((with_reducible refine gate_dst (N := 12) rfl ?_); refine val_event (N := 12) (w1 := w2) (v := .agg (bunC b).toArray) ?hg ?hd ?hr ?_; (case hd => rfl); (case hg => rfl); (case hr => exact exec_load rfl rfl (load52 BK2.out))) | (go_at_call 49; refine (HBR.out _).mono ?_; rintro e w3 ⟨rfl, hb⟩; have HB3 := As_.mk (HB2.out.trans (hb.mono HB2.out.size)); have BK3 := As_.mk (kB_ BK2.out hb); clear hb))
      go_ret2
      refine ⟨_, by unfold wdE; rw [HII.out, HBB.out]; rfl, ?_, HB3.out⟩
      unfold wdL
      rw [HII.out, HBB.out, if_neg (by simp)]
      exact Kd.R_nil _ _ _ _ _
    | true =>
      rw [hb] at HBR
      have HBB := As_.mk hb
      clear hb
      go_enter Try.func23, Try.ntmps23
      go_wp2_with (first | ((with_reducible refine gate_dst (N := 1) rfl ?_); refine box_event ?hg (N := 1) ?hd (cs := (bunC b).toArray) (t := 52) ?hr ?_; (case hd => rfl); (case hg => rfl); (case hr => exact exec_box rfl rfl (box_run _ _ _)); intro g1 hg1 w1 hbox hb; have BK1 := As_.mk hbox; have HB1 := As_.mk hb; clear hbox hb hg1) | ((with_reducible refine gate_dst (N := 8) rfl ?_); refine val_event (N := 8) (w1 := w1) (v := .agg (bunC b).toArray) ?hg ?hd ?hr ?_; (case hd => rfl); (case hg => rfl); (case hr => exact exec_load rfl rfl (load52 BK1.out))) | (go_at_call 48; refine (HIB.out _).mono ?_; rintro e w2 ⟨rfl, hb⟩; have HB2 := As_.mk (HB1.out.trans (hb.mono HB1.out.size)); have BK2 := As_.mk (kB_ BK1.out hb); clear hb) | ((with_reducible refine gate_dst (N := 12) rfl ?_); refine val_event (N := 12) (w1 := w2) (v := .agg (bunC b).toArray) ?hg ?hd ?hr ?_; (case hd => rfl); (case hg => rfl); (case hr => exact exec_load rfl rfl (load52 BK2.out))) | (go_at_call 49; refine (HBR.out _).mono ?_; rintro e w3 ⟨rfl, hb⟩; have HB3 := As_.mk (HB2.out.trans (hb.mono HB2.out.size)); have BK3 := As_.mk (kB_ BK2.out hb); clear hb) | ((with_reducible refine gate_dst (N := 15) rfl ?_); refine val_event (N := 15) (w1 := w3) (v := .agg (bunC b).toArray) ?hg ?hd ?hr ?_; (case hd => rfl); (case hg => rfl); (case hr => exact exec_load rfl rfl (load52 BK3.out))))
      go_loopw [4, 16] (fun v4 i wr => ∃ j : Nat, j ≤ 4 ∧ i = .int .i64 j ∧ As_ (Kd.R (Kd.int .u32) 33 wr w.heap.size (fun _ => True) v4 (wl b j)) ∧ As_ (Below w.heap.size w wr)) (fun _ i _ => 4 - (intOf i).toNat)
      case atStart => exact ⟨0, Nat.zero_le _, rfl, ⟨Kd.R_nil _ _ _ _ _⟩, ⟨HB3.out⟩⟩
      case round =>
        clear HB3 BK3
        obtain ⟨j, hj, rfl, HO_4, HB⟩ := hrel
        by_cases hlt : j < 4
        · have p1 : ((0 : Int) ≤ (j : Int)) = True := eq_true (Int.natCast_nonneg _)
          have q1 : ((j : Int) < 4) = True := eq_true (by omega)
          have q2 : (j < 4) = True := eq_true hlt
          have HLT := As_.mk hlt
          have hw2 : wrap64 ((j : Int) + 1) = ((j + 1 : Nat) : Int) := by unfold wrap64; omega
          clear hlt hj
          have HIX := As_.mk (run_index (b := b) HLT.out wr)
          have hok := isBun_at b 4 HII.out j HLT.out
          unfold okB at hok
          rw [Bool.and_eq_true] at hok
          generalize hx : get52 b j = x at HIX hok
          have HX := As_.mk hx
          have HP := As_.mk (fun W => pack_calls x hok.1 W)
          clear hx hok
          go_wp2_with (first | ((with_reducible refine gate_dst (N := 18) rfl ?_); refine val_event (N := 18) (w1 := wr) (v := .agg (insC x).toArray) ?hg ?hd ?hr ?_; (case hd => rfl); (case hg => rfl); (case hr => exact exec_index rfl rfl rfl HIX.out)) | ((with_reducible refine gate_dst (N := 6) rfl ?_); refine box_event ?hg (N := 6) ?hd (cs := (insC z35).toArray) (t := 35) ?hr ?_; (case hd => rfl); (case hg => rfl); (case hr => first | (go_simp; done) | (go_simp; rfl)); intro g4 hg4 w4 hbox hb; have HB4 := As_.mk (HB.out.trans (hb.mono HB.out.size)); have BK4 := As_.mk hbox; have HO4 := As_.mk (Kd.R_elderB (Kd.R_below HO_4.out hb) w4.heap.size (Nat.le_refl _)); have G4 := As_.mk (show w.heap.size ≤ g4 from by rw [hg4]; exact HB.out.size); have HOg := As_.mk (Kd.R_below (Kd.R_elderB HO_4.out g4 (by rw [hg4]; exact Nat.le_refl _)) hb); clear hbox hb hg4 HO4) | ((with_reducible refine gate_store (t := 35) (p := 6) rfl ?_); obtain ⟨h7a, h7b⟩ := box35 BK4.out x; have H7A := As_.mk h7a; have H7B := As_.mk h7b; clear h7a h7b; refine store_event (t := 35) (p := 6) (v := .tmp 18) (w1 := w4.setCells g4 0 (insC x)) ?hg ?ho ?hn ?hr ?_; (case ho => rfl); (case hg => rfl); (case hn => rfl); (case hr => exact exec_store rfl rfl rfl H7B.out); intro w5 hw_; have BK5 := As_.mk (at_ hw_ H7A.out); have HB5 := As_.mk (bset_ hw_ HB4.out HB4.out.size G4.out); have HO5 : As_ (Kd.R (Kd.int .u32) 33 w5 w.heap.size (fun _ => True) u4 (wl b j)) := ⟨by rw [hw_]; exact Kd.R_mono (Kd.R_grown HOg.out (setCells_grown _ _ _ _) (fun k_ hk_ he_ => hk_.2 (by injection he_))) (fun _ _ => trivial)⟩; clear hw_ H7A H7B) | ((with_reducible refine gate_dst (N := 20) rfl ?_); refine val_event (N := 20) (w1 := w5) (v := .agg (insC x).toArray) ?hg ?hd ?hr ?_; (case hd => rfl); (case hg => rfl); (case hr => exact exec_load rfl rfl (load35 BK5.out))) | (go_at_call 29; refine (HP.out _).mono ?_; rintro e w6 ⟨rfl, hb⟩; have HB6 := As_.mk (HB5.out.trans (hb.mono HB5.out.size)); have HO6 := As_.mk (Kd.R_below HO5.out hb); clear hb) | ((with_reducible refine gate_builtin (b := .append) (xs := #[.tmp 19, .tmp 22]) rfl ?_); at_builtin; refine Kd.R_append (Kd.int .u32) (w0 := w) w.heap.size rfl (.tmp 19) (.tmp 22) 26 33 (.int .u32 0) 4 rfl Try.underlying26 info33 rfl (by decide) (by omega) u4 (wl b j) (wordX x) [.int .u32 (wordX x)] (fun _ => True) (fun _ => False) rfl rfl ?aP (fun _ hk => hk.elim) ?aF ?aO ?aB ?aS ?aL ?_; (case aP => exact rfl); (case aB => exact HB6.out); (case aF => exact (fun _ _ => trivial)); (case aO => exact HO6.out); (case aS => exact bY_ HB6.out); (case aL => rw [wl_len]; have := HLT.out; omega); intro v7 w7 ho hb hg hat; have HO7 := As_.mk ho; have HB7 := As_.mk hb; clear ho hb hg hat))
          refine ⟨⟨j + 1, by have := HLT.out; omega, by congr 1, ⟨by rw [wl, HX.out]; exact HO7.out⟩, ⟨HB7.out⟩⟩, ?_⟩
          rw [hw2]
          show 4 - (((j + 1 : Nat) : Int)).toNat < 4 - ((j : Nat) : Int).toNat
          rw [Int.toNat_natCast, Int.toNat_natCast]
          have := HLT.out
          omega
        · obtain rfl : j = 4 := by omega
          have q1 : (((4 : Nat) : Int) < 4) = False := eq_false (by omega)
          clear hlt hj
          go_wp2
          go_ret2
          refine ⟨_, by unfold wdE; rw [HII.out, HBB.out]; rfl, ?_, HB.out⟩
          unfold wdL
          rw [if_pos ⟨HII.out, HBB.out⟩]
          exact HO_4.out
def refB (b : S52) (pl : Bool) : Bool := isBun b 4 && (!pl || bareB b 4)
def refUp (b : S52) (pl : Bool) : Nat → Bool
  | 0 => true
  | j + 1 => refUp b pl j && (okB b j && (!pl || bareAt b j))
theorem refUp_eq (b : S52) (pl : Bool) : ∀ n, refUp b pl n = (isBun b n && (!pl || bareB b n))
  | 0 => by cases pl <;> rfl
  | n + 1 => by
    rw [refUp, isBun, bareB, refUp_eq b pl n]
    cases pl <;> cases isBun b n <;> cases okB b n <;> cases bareB b n <;> cases bareAt b n <;> rfl
theorem refUp_not (b : S52) (pl : Bool) (j : Nat) (h : (okB b j && (!pl || bareAt b j)) = false) : ∀ n, j < n → refUp b pl n = false
  | n + 1, hn => by
    rw [refUp]
    by_cases e : j = n
    · subst e; rw [h, Bool.and_false]
    · rw [refUp_not b pl j h n (by omega), Bool.false_and]
theorem refins_calls (x : S35) (w : World) : Calls Try.prog 9 #[.agg (insC x).toArray] w fun e w' => e = .returned (.bool (insOk x.f0 x.f1 x.f2 x.f3 x.f4 x.f5)) ∧ Below w.heap.size w w' :=
  r3_Ins.calls 50 x.f0 x.f1 x.f2 x.f3 x.f4 x.f5 _ w (ref_ins_eq (Nat.le_refl _) _ _ _ _ _ _)
theorem slot_cell {W : World} {g : Nat} {b : S52} (h : W.heap[g]? = some (.cells (bunC b).toArray 52 (0, 0))) (s : Nat) (hs : s < 4) : W.cell? ⟨g, s * 6, none⟩ = some (.int .i64 (get52 b s).f0) ∧ W.cell? ⟨g, s * 6 + 5, none⟩ = some (.string (get52 b s).f5) := by
  rw [bC_ h, bC_ h]
  have : s = 0 ∨ s = 1 ∨ s = 2 ∨ s = 3 := by omega
  rcases this with rfl | rfl | rfl | rfl <;> exact ⟨rfl, rfl⟩
set_option maxRecDepth 100000 in
set_option maxHeartbeats 8000000 in
theorem refbun_calls (b : S52) (pl : Bool) (w : World) :
    Calls Try.prog 24 #[.agg (bunC b).toArray, .bool pl] w fun e w' => e = .returned (.bool (refB b pl)) ∧ Below w.heap.size w w' := by
  have hu52 := Try.underlying52
  have hu35 := Try.underlying35
  go_enter Try.func24, Try.ntmps24
  go_wp2_with (first | ((with_reducible refine gate_dst (N := 2) rfl ?_); refine box_event ?hg (N := 2) ?hd (cs := (bunC b).toArray) (t := 52) ?hr ?_; (case hd => rfl); (case hg => rfl); (case hr => exact exec_box rfl rfl (box_run _ _ _)); intro g1 hg1 w1 hbox hb; have BK1 := As_.mk hbox; have HB1 := As_.mk hb; clear hbox hb hg1))
  go_loopw [5] (fun i wr => ∃ j : Nat, j ≤ 4 ∧ i = .int .i64 j ∧ As_ (refUp b pl j = true) ∧ As_ (wr.heap[g1]? = some (.cells (bunC b).toArray 52 (0, 0))) ∧ As_ (Below w.heap.size w wr)) (fun i _ => 4 - (intOf i).toNat)
  case atStart => exact ⟨0, Nat.zero_le _, rfl, ⟨rfl⟩, ⟨BK1.out⟩, ⟨HB1.out⟩⟩
  case round =>
    clear HB1 BK1
    obtain ⟨j, hj, rfl, HO, BK, HB⟩ := hrel
    by_cases hlt : j < 4
    · have p1 : ((0 : Int) ≤ (j : Int)) = True := eq_true (Int.natCast_nonneg _)
      have q1 : ((j : Int) < 4) = True := eq_true (by omega)
      have q2 : (j < 4) = True := eq_true hlt
      have HLT := As_.mk hlt
      have hw2 : wrap64 ((j : Int) + 1) = ((j + 1 : Nat) : Int) := by unfold wrap64; omega
      clear hlt hj
      have HIX := As_.mk (load_slot BK.out j HLT.out)
      obtain ⟨hy0, hy5⟩ := slot_cell BK.out j HLT.out
      generalize hx : get52 b j = x at HIX hy0 hy5
      have HX := As_.mk hx
      have HY0 := As_.mk hy0
      have HY5 := As_.mk hy5
      clear hx hy0 hy5
      have HI := As_.mk (fun W => refins_calls x W)
      cases hI : insOk x.f0 x.f1 x.f2 x.f3 x.f4 x.f5 with
      | false =>
        rw [hI] at HI
        have HN := As_.mk (refUp_not b pl j (by unfold okB bareAt; rw [HX.out]; rw [hI]; rfl) 4 HLT.out)
        clear hI
        go_wp2_with (first | ((with_reducible refine gate_dst (N := 12) rfl ?_); refine val_event (N := 12) (w1 := wr) (v := .agg (insC x).toArray) ?hg ?hd ?hr ?_; (case hd => rfl); (case hg => rfl); (case hr => exact exec_load rfl rfl HIX.out)) | (go_at_call 9; refine (HI.out _).mono ?_; rintro e w6 ⟨rfl, hb⟩; have HB6 := As_.mk (HB.out.trans (hb.mono HB.out.size)); have BK6 := As_.mk (kB_ BK.out hb); clear hb))
        go_ret
        exact ⟨by unfold refB; rw [← refUp_eq, HN.out]; rfl, HB6.out⟩
      | true =>
        rw [hI] at HI
        have hop := okI_op hI
        have HM := As_.mk (fun W => r3_May.calls 20 x.f0 (j : Int) _ W (ref_may_eq (Nat.le_refl _) _ _ hop.1 hop.2 (Int.natCast_nonneg _) (by have := HLT.out; omega)))
        have HII := As_.mk hI
        clear hI hop
        cases hM : mayOp x.f0 (j : Int) with
        | false =>
          rw [hM] at HM
          have HN := As_.mk (refUp_not b pl j (by unfold okB bareAt; rw [HX.out]; rw [HII.out, hM]; rfl) 4 HLT.out)
          clear hM
          go_wp2_with (first | ((with_reducible refine gate_dst (N := 12) rfl ?_); refine val_event (N := 12) (w1 := wr) (v := .agg (insC x).toArray) ?hg ?hd ?hr ?_; (case hd => rfl); (case hg => rfl); (case hr => exact exec_load rfl rfl HIX.out)) | (go_at_call 9; refine (HI.out _).mono ?_; rintro e w6 ⟨rfl, hb⟩; have HB6 := As_.mk (HB.out.trans (hb.mono HB.out.size)); have BK6 := As_.mk (kB_ BK.out hb); have y0 : w6.cell? ⟨g1, j * 6, none⟩ = some (.int .i64 x.f0) := pw_cell_below hb HY0.out; clear hb) | (go_at_call 22; refine (HM.out _).mono ?_; rintro e w7 ⟨rfl, hb⟩; have HB7 := As_.mk (HB6.out.trans (hb.mono HB6.out.size)); have BK7 := As_.mk (kB_ BK6.out hb); clear hb))
          go_ret
          exact ⟨by unfold refB; rw [← refUp_eq, HN.out]; rfl, HB7.out⟩
        | true =>
          rw [hM] at HM
          have HMM := As_.mk hM
          clear hM
          cases pl with
          | false =>
            have HN := As_.mk (show refUp b false (j + 1) = true from by rw [refUp, HO.out, Bool.true_and]; unfold okB bareAt; rw [HX.out, HII.out, HMM.out]; rfl)
            go_wp2_with (first | ((with_reducible refine gate_dst (N := 12) rfl ?_); refine val_event (N := 12) (w1 := wr) (v := .agg (insC x).toArray) ?hg ?hd ?hr ?_; (case hd => rfl); (case hg => rfl); (case hr => exact exec_load rfl rfl HIX.out)) | (go_at_call 9; refine (HI.out _).mono ?_; rintro e w6 ⟨rfl, hb⟩; have HB6 := As_.mk (HB.out.trans (hb.mono HB.out.size)); have BK6 := As_.mk (kB_ BK.out hb); have y0 : w6.cell? ⟨g1, j * 6, none⟩ = some (.int .i64 x.f0) := pw_cell_below hb HY0.out; clear hb) | (go_at_call 22; refine (HM.out _).mono ?_; rintro e w7 ⟨rfl, hb⟩; have HB7 := As_.mk (HB6.out.trans (hb.mono HB6.out.size)); have BK7 := As_.mk (kB_ BK6.out hb); clear hb))
            refine ⟨⟨j + 1, by have := HLT.out; omega, by congr 1, ⟨HN.out⟩, ⟨BK7.out⟩, ⟨HB7.out⟩⟩, ?_⟩
            rw [hw2]
            show 4 - (((j + 1 : Nat) : Int)).toNat < 4 - ((j : Nat) : Int).toNat
            rw [Int.toNat_natCast, Int.toNat_natCast]
            have := HLT.out
            omega
          | true =>
            by_cases hs : x.f5.toList = []
            · have HN := As_.mk (show refUp b true (j + 1) = true from by rw [refUp, HO.out, Bool.true_and]; unfold okB bareAt; rw [HX.out, HII.out, HMM.out]; rw [decide_eq_true hs]; rfl)
              have HSS := As_.mk hs
              go_wp2_with (first | ((with_reducible refine gate_dst (N := 12) rfl ?_); refine val_event (N := 12) (w1 := wr) (v := .agg (insC x).toArray) ?hg ?hd ?hr ?_; (case hd => rfl); (case hg => rfl); (case hr => exact exec_load rfl rfl HIX.out)) | (go_at_call 9; refine (HI.out _).mono ?_; rintro e w6 ⟨rfl, hb⟩; have HB6 := As_.mk (HB.out.trans (hb.mono HB.out.size)); have BK6 := As_.mk (kB_ BK.out hb); have y0 : w6.cell? ⟨g1, j * 6, none⟩ = some (.int .i64 x.f0) := pw_cell_below hb HY0.out; clear hb) | (go_at_call 22; refine (HM.out _).mono ?_; rintro e w7 ⟨rfl, hb⟩; have HB7 := As_.mk (HB6.out.trans (hb.mono HB6.out.size)); have BK7 := As_.mk (kB_ BK6.out hb); have y5 : w7.cell? ⟨g1, j * 6 + 5, none⟩ = some (.string x.f5) := (slot_cell BK7.out j HLT.out).2.trans (by rw [HX.out]); clear hb))
              refine ⟨⟨j + 1, by have := HLT.out; omega, by congr 1, ⟨HN.out⟩, ⟨BK7.out⟩, ⟨HB7.out⟩⟩, ?_⟩
              rw [hw2]
              show 4 - (((j + 1 : Nat) : Int)).toNat < 4 - ((j : Nat) : Int).toNat
              rw [Int.toNat_natCast, Int.toNat_natCast]
              have := HLT.out
              omega
            · have HN := As_.mk (refUp_not b true j (by unfold okB bareAt; rw [HX.out]; rw [HII.out, HMM.out, decide_eq_false hs]; rfl) 4 HLT.out)
              have c1 : x.f5.toList.isEmpty = false := by cases h_ : x.f5.toList with | nil => exact absurd h_ hs | cons _ _ => rfl
              go_wp2_with (first | ((with_reducible refine gate_dst (N := 12) rfl ?_); refine val_event (N := 12) (w1 := wr) (v := .agg (insC x).toArray) ?hg ?hd ?hr ?_; (case hd => rfl); (case hg => rfl); (case hr => exact exec_load rfl rfl HIX.out)) | (go_at_call 9; refine (HI.out _).mono ?_; rintro e w6 ⟨rfl, hb⟩; have HB6 := As_.mk (HB.out.trans (hb.mono HB.out.size)); have BK6 := As_.mk (kB_ BK.out hb); have y0 : w6.cell? ⟨g1, j * 6, none⟩ = some (.int .i64 x.f0) := pw_cell_below hb HY0.out; clear hb) | (go_at_call 22; refine (HM.out _).mono ?_; rintro e w7 ⟨rfl, hb⟩; have HB7 := As_.mk (HB6.out.trans (hb.mono HB6.out.size)); have BK7 := As_.mk (kB_ BK6.out hb); have y5 : w7.cell? ⟨g1, j * 6 + 5, none⟩ = some (.string x.f5) := (slot_cell BK7.out j HLT.out).2.trans (by rw [HX.out]); clear hb))
              go_ret
              exact ⟨by unfold refB; rw [← refUp_eq, HN.out]; rfl, HB7.out⟩
    · obtain rfl : j = 4 := by omega
      have q1 : (((4 : Nat) : Int) < 4) = False := eq_false (by omega)
      clear hlt hj
      go_wp2
      go_ret
      exact ⟨by unfold refB; rw [← refUp_eq, HO.out]; rfl, HB.out⟩
end Go.Proofs.Ytfnchdlgkkdegaa.PAll
