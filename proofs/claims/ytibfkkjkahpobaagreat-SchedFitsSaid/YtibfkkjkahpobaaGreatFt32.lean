import Derived.Test.YtibfkkjkahpobaaGreatFt30
import Derived.Test.YtibfkkjkahpobaaGreatFt31
import Derived.Maps.Views
import Derived.Maps.GroupsBeside
import Derived.WideKeyEntry
import Derived.DeepKeys4
set_option linter.unusedVariables false
set_option linter.unusedSimpArgs false
set_option maxHeartbeats 8000000
set_option maxRecDepth 100000
section
-- the texts that this claim needs, out of this session's and its print's (wip/shrink.py)
namespace Go.Den
open Go Go.RowKit Go.Proofs Go.Proofs.YtibfkkjkahpobaaGreat.PDag
open Go.Maps Go.WideElems Go.MapKept
open Go.ChangeMaps (setBlock heap_setBlock_same heap_setBlock_other putKey)
def keyV (x : S24) : Value := .agg #[.int .i64 x.f0, .int .i64 x.f1, .int .i64 x.f2, .int .i64 x.f3, .int .i64 x.f4, .string x.f5]
def nilV : Value := .slice none 0 0
theorem und115 : Tryz.prog.underlying 115 = some (.map 24 94) := by kernel_rfl
theorem und3 : Tryz.prog.underlying 3 = some (.int .i64) := by kernel_rfl
theorem und9 : Tryz.prog.underlying 9 = some .string := by kernel_rfl
theorem keyT24 : Tryz.prog.keyType 24 = true := by kernel_rfl
theorem law24 : WideMaps.KeyLaw Tryz.prog 24 := deep_law_laid (by kernel_rfl) (m := 200) (by omega) (by decide +kernel) (by kernel_rfl) (by kernel_rfl)
theorem kd24 : Keyed Tryz.prog 24 := Keyed.of_law law24
theorem size_nil {s : ByteArray} (h : s.toList = []) : s.size = 0 := (toList_nil s).1 h
theorem imm_parts {f imm : Int} {s : ByteArray} (h : immOk f imm s = true) : (-131072 ≤ imm ∧ imm ≤ 131072) ∧ s.size ≤ 12 := by
  have hname : nameOk s = true → s.size ≤ 12 := fun h => by
    unfold nameOk at h; simp only [Bool.and_eq_true, decide_eq_true_eq] at h; exact h.2.1
  have h14 : fit14 imm = true → -131072 ≤ imm ∧ imm ≤ 131072 := fun h => by
    unfold fit14 at h; have := of_decide_eq_true h; omega
  have h18 : fit18 imm = true → -131072 ≤ imm ∧ imm ≤ 131072 := fun h => by
    unfold fit18 at h; have := of_decide_eq_true h; omega
  have h0 : (imm == 0) = true → -131072 ≤ imm ∧ imm ≤ 131072 := fun h => by
    have := eq_of_beq h; omega
  unfold immOk at h; split at h
  · split at h
    · rename_i hs
      have := of_decide_eq_true h; exact ⟨by omega, by rw [size_nil hs]; omega⟩
    · simp only [Bool.and_eq_true] at h; exact ⟨h0 h.1, hname h.2⟩
  · split at h
    · rename_i hs
      refine ⟨?_, by rw [size_nil hs]; omega⟩; split at h
      · exact h14 h
      · split at h
        · exact h18 h
        · exact h0 h
    · split at h
      · simp only [Bool.and_eq_true] at h; exact ⟨h18 h.2, hname h.1⟩
      · cases h
theorem wf_of {n : Int} (h0 : -131072 ≤ n) (h1 : n ≤ 131072) : (Lit.int .i64 n).wf = true := by
  have e0 : IntKind.i64.min = -9223372036854775808 := by decide
  have e1 : IntKind.i64.max = 9223372036854775807 := by decide
  show (decide (IntKind.i64.min ≤ n) && decide (n ≤ IntKind.i64.max)) = true; rw [e0, e1, decide_eq_true (by omega), decide_eq_true (by omega)]; rfl
theorem okI_wf {x : S24} (h : okI x = true) : (∀ n ∈ [x.f0, x.f1, x.f2, x.f3, x.f4], (Lit.int .i64 n).wf = true) ∧ x.f5.size ≤ 12 := by
  obtain ⟨h0, h1, h2, h3, h4⟩ := ins_parts h; have h1 := reg_parts h1; have h2 := reg_parts h2; have h3 := reg_parts h3; obtain ⟨h4, h5⟩ := imm_parts h4; refine ⟨fun n hn => ?_, h5⟩; simp only [List.mem_cons, List.not_mem_nil, or_false] at hn; rcases hn with rfl | rfl | rfl | rfl | rfl <;> exact wf_of (by omega) (by omega)
theorem keyOf_ins {x : S24} (h : okI x = true) : ∃ kl, keyOf Tryz.prog 24 (keyV x) = some kl := by
  obtain ⟨h1, h2⟩ := okI_wf h; have e0 := h1 x.f0 (by simp); have e1 := h1 x.f1 (by simp); have e2 := h1 x.f2 (by simp); have e3 := h1 x.f3 (by simp); have e4 := h1 x.f4 (by simp); have hc : Tryz.prog.cellsOf 24 = 6 := by kernel_rfl
  have hc3 : Tryz.prog.cellsOf 3 = 1 := by kernel_rfl
  have hc9 : Tryz.prog.cellsOf 9 = 1 := by kernel_rfl
  have hm : x.f5.size ≤ maxLen := by unfold maxLen; omega
  obtain ⟨n, hn⟩ : ∃ n, Tryz.prog.types.size = n + 1 := ⟨Tryz.prog.types.size - 1, by kernel_rfl⟩
  unfold keyOf; rw [Tryz.underlying24]; simp only [keyT24, keyV, Value.formed, Tryz.underlying24, hc, Value.cells]; rw [hn]; simp [Program.keyLits, Tryz.underlying24, hc, hc3, hc9, und3, und9, e0, e1, e2, e3, e4, hm]
noncomputable def klOf (x : S24) : Lit := (keyOf Tryz.prog 24 (keyV x)).getD (.bool false)
theorem keyOf_at {x : S24} (h : okI x = true) : keyOf Tryz.prog 24 (keyV x) = some (klOf x) := by
  obtain ⟨kl, hk⟩ := keyOf_ins h; unfold klOf; rw [hk]; rfl
theorem keyV_inj {x y : S24} (h : keyV x = keyV y) : x = y := by
  obtain ⟨x0, x1, x2, x3, x4, x5⟩ := x; obtain ⟨y0, y1, y2, y3, y4, y5⟩ := y; unfold keyV at h; simp only [Value.agg.injEq, Array.mk.injEq, List.cons.injEq, Value.int.injEq, Value.string.injEq, true_and, and_true] at h; obtain ⟨h0, h1, h2, h3, h4, h5⟩ := h; subst h0 h1 h2 h3 h4 h5; rfl
theorem klOf_inj {x y : S24} (hx : okI x = true) (hy : okI y = true) (h : klOf x = klOf y) : x = y :=
  keyV_inj (law24.inj (keyOf_at hx) (by rw [h]; exact keyOf_at hy))
def RR : Value → Option (DataW Value × List MemPlace) := fun v => some (.held v, [])
noncomputable def srt (es : Array MapEntry) : List (Lit × DataW Value) := (es.toList.map (rg Tryz.prog 24 RR)).foldr DataW.insert []
def MapOk (o : Obj) (v : S24 → Value) (n : Nat) : Prop := ∃ es clock, o = .map es clock ∧ Fit Tryz.prog 24 RR es clock ∧ es.size ≤ n ∧ ∀ x, okI x = true → (DataW.map (srt es)).atKey (klOf x) (.held nilV) = .held (v x)
section
variable {w : World} {b n : Nat} {o : Obj} {v : S24 → Value} {x : S24}
theorem zero94 (w : World) : (zeroValue 94).run Tryz.prog w = .ok nilV w := by
  have hz : (Tryz.prog.info? 94).map (·.zero) = some (some nilV) := by kernel_rfl
  obtain ⟨i, hi, hz⟩ := Option.map_eq_some_iff.1 hz; simp [zeroValue, typeInfo, hi, hz]
theorem map_made : MapOk (.map #[] 0) (fun _ => nilV) 0 := by
  refine ⟨#[], 0, rfl, ⟨by simp, stamped_empty 0, by simp⟩, Nat.le_refl _, fun x _ => ?_⟩; rfl
theorem map_look (hm : MapOk o v n) (hb : w.heap[b]? = some o) (hx : okI x = true) : (Instr.lookup 115 (.map (some b)) (keyV x) false).run Tryz.prog w = .ok (v x) w := by
  obtain ⟨es, clock, rfl, F, hs, hv⟩ := hm; have hvx := hv x hx; rcases Maps.fit_look false kd24 und115 (zero94 w) hb F (keyOf_at hx) with ⟨hrun, _, hat⟩ | ⟨e0, y, _, _, hrun, hR, hat, _⟩
  · have h1 : DataW.held nilV = DataW.held (v x) := (hat _).symm.trans hvx; injection h1 with h1
    rw [hrun, h1]; rfl
  · obtain rfl := Option.some.inj hR; have h1 : DataW.held e0.val = DataW.held (v x) := (hat _).symm.trans hvx; injection h1 with h1
    rw [hrun, h1]; rfl
theorem map_upd (hm : MapOk o v n) (hb : w.heap[b]? = some o) (hx : okI x = true) (hn : n < maxLen) (val : Value) : ∃ es' clock', (Instr.mapUpdate 115 (.map (some b)) (keyV x) val).run Tryz.prog w = .ok () (setBlock w b (.map es' clock')) ∧ MapOk (.map es' clock') (fun y => if eqI y x = true then val else v y) (n + 1) := by
  obtain ⟨es, clock, rfl, F, hs, hv⟩ := hm; obtain ⟨es', clock', hrun, F', hput, _⟩ := Maps.fit_store (R' := RR) (val := val) kd24 und115 hb F (Nat.lt_of_le_of_lt hs hn) (fun _ _ _ _ h => h) (keyOf_at hx) rfl; refine ⟨es', clock', hrun, es', clock', rfl, F', ?_, fun y hy => ?_⟩
  · have e1 : es'.size = ((es'.toList.map (rg Tryz.prog 24 RR)).foldr DataW.insert []).length := by rw [length_sorted]; simp
    rw [e1, hput]; unfold putKey; rw [length_insert]; have e2 := List.length_filter_le (ChangeMaps.notKey (klOf x)) ((es.toList.map (rg Tryz.prog 24 RR)).foldr DataW.insert []); rw [length_sorted] at e2; simp at e2; omega
  · have h1 : DataW.map (srt es') = (DataW.map (srt es)).put (klOf x) (.held val) := by
      rw [DataW.put_eq]; exact congrArg DataW.map hput
    rw [h1]; show _ = DataW.held (if eqI y x = true then val else v y)
    by_cases he : eqI y x = true
    · rw [if_pos he, eqI_eq he]; exact atKey_put_same ⟨_, rfl⟩ (kd24.key (keyOf_at hx)) _ _
    · rw [if_neg he, atKey_put_other (fun h => he (by rw [klOf_inj hy hx h]; exact eqI_self x))]; exact hv y hy
theorem map_entry (hm : MapOk o v n) (hb : w.heap[b]? = some o) (hx : okI x = true) (hn : n < maxLen) : ∃ (st : Nat) (o1 : Obj), (∃ es1 clock1, o1 = .map es1 clock1) ∧ (Instr.mapEntry 115 (.map (some b)) (keyV x)).run Tryz.prog w = .ok (.tuple #[v x, goInt st]) (setBlock w b o1) ∧
    ∀ (w2 : World) (val : Value), w2.heap[b]? = some o1 → ∃ es' clock', (Instr.entryStore 115 (.map (some b)) (goInt st) val).run Tryz.prog w2 = .ok () (setBlock w2 b (.map es' clock')) ∧ MapOk (.map es' clock') (fun y => if eqI y x = true then val else v y) (n + 1) := by
  have hm' := hm; obtain ⟨es, clock, rfl, F, hs, hv⟩ := hm; obtain ⟨v0, st, es1, clock1, hrun, hwho, hst⟩ := entry_then_store law24 und115 zero94 hb F (keyOf_at hx); have hlook := map_look hm' hb hx
  have hv0 : v0 = v x := by
    rcases Maps.fit_look false kd24 und115 (zero94 w) hb F (keyOf_at hx) with ⟨h1, h2, _⟩ | ⟨e0, y, h1, h2, h3, _⟩
    · rw [h1] at hlook; have hz : nilV = v x := by simpa using hlook
      rcases hwho with ⟨e0, h3, h4, _⟩ | ⟨_, h4⟩
      · exact absurd h4 (h2 e0 h3)
      · rw [h4, hz]
    · rw [h3] at hlook; have hz : e0.val = v x := by simpa using hlook
      rcases hwho with ⟨e1, h4, h5, h6⟩ | ⟨h4, _⟩
      · rw [h6, ← hz]; obtain ⟨i, hi, rfl⟩ := List.getElem_of_mem h4; obtain ⟨j, hj, rfl⟩ := List.getElem_of_mem h1; have hp := List.pairwise_iff_getElem.1 ((stamped_iff es clock).1 F.stamped).2.2; rcases Nat.lt_trichotomy i j with h | h | h
        · exact absurd (h5.trans h2.symm) (hp i j hi hj h)
        · subst h; rfl
        · exact absurd (h2.trans h5.symm) (hp j i hj hi h)
      · exact absurd h2 (h4 e0 h1)
  refine ⟨st, .map es1 clock1, ⟨_, _, rfl⟩, by rw [hrun, hv0], fun w2 val hw2 => ?_⟩; obtain ⟨es', clock', h1, h2⟩ := hst w2 val hw2; obtain ⟨es2, clock2, h3, h4⟩ := map_upd hm' hb hx hn val; rw [h2] at h3; have h5 : setBlock w b (.map es' clock') = setBlock w b (.map es2 clock2) := by simpa using h3
  have h6 : Obj.map es' clock' = Obj.map es2 clock2 := by
    have h7 := congrArg (fun u : World => u.heap[b]?) h5; simp only [heap_setBlock_same hb] at h7; exact Option.some.inj h7
  rw [← h6] at h4; exact ⟨es', clock', h1, h4⟩
end
end Go.Den
end
section
-- the texts that this claim needs, out of this session's and its print's (wip/shrink.py)
namespace Go.Den
open Go Go.RowKit
def StepG (P : Program) (ops : Array Oper) (cx : Cx) (i : Nat) (σ : St) (M : Gh) (K : St → Gh → Prop) : Prop := ∀ (Q : Exit → Act → World → Prop) (K' : Act → World → Prop) a w, RG cx M σ a w → (∀ σ' M' a' w', K σ' M' → RG cx M' σ' a' w' → K' a' w') → wpOp P ops Q i K' a w
def ordG (P : Program) (ops : Array Oper) (cx : Cx) (K : St → Gh → Prop) : OT → St → Gh → Prop
  | .done, σ, M => K σ M
  | .none, _, _ => True
  | .alt i t r, σ, M => StepG P ops cx i σ M (fun σ' M' => ordG P ops cx K t σ' M') ∧ ordG P ops cx K r σ M
section
variable {P : Program} {cx : Cx} {σ : St} {M : Gh} {ops : Array Oper} {tb : Tb} {i : Nat}
theorem StepG.den (tok : TbOk P tb) (hM : GhOk M) {ow : Bool} {o : Oper} {K : St → Gh → Prop} (hi : ops[i]? = some o) (σ1 : St) (hw : stepA P tb ops ow o σ fun s h1 => σ.put o.dst s h1 fun σ' => σ' = σ1) (hk : K σ1 M) : StepG P ops cx i σ M K := fun Q K' a w r h =>
  stepG_ok tok hM hi hw r fun σ' a' w' e r' => h σ' M a' w' (by rw [e]; exact hk) r'
theorem RunG.step {Q : Exit → St → Gh → Prop} {is : List Nat} (h : StepG P ops cx i σ M fun σ' M' => RunG P ops cx is σ' M' Q) : RunG P ops cx (i :: is) σ M Q := fun a w r => by
  rw [wpOps_cons]; exact h _ _ a w r fun σ' M' a' w' hk r' => hk a' w' r'
theorem StepG.raw {o : Oper} {K : St → Gh → Prop} (hi : ops[i]? = some o) (hg : o.guard = none) (hd : ∀ d, o.dst = some d → d < σ.n)
    (hr : ∀ a w U ρ, R0 cx U ρ σ a w → M U ρ σ.heap w → ∃ v w1 U1 ρ1 s h1 M1, ((execOp a.eval o).run P w = .ok (.value v) w1) ∧ R0 cx U1 ρ1 { σ with heap := h1 } a w1 ∧ M1 U1 ρ1 h1 w1 ∧ SR U1 ρ1 h1 w1 s v ∧ K { env := putE o.dst s σ.env, heap := h1, n := σ.n } M1) : StepG P ops cx i σ M K := fun Q K' a w ⟨U, ρ, r, m⟩ hk => by
  obtain ⟨v, w1, U1, ρ1, s, h1, M1, hrun, r1, m1, hs, hK⟩ := hr a w U ρ r m; unfold wpOp; simp only [hi]; have hwant : Region.wanted o (yielded ops a.tmps) = true := by unfold Region.wanted; rw [hg]
  rw [if_pos hwant]; refine .inl ?_; unfold Oper.wp; rw [hrun]; refine hk _ M1 _ _ hK ?_
  cases hdd : o.dst with
  | none => exact ⟨U1, ρ1, r1, m1⟩
  | some d => exact ⟨U1, ρ1, r1.put (s := s) (hd d hdd) hs, m1⟩
theorem ordG_ok {K : St → Gh → Prop} {Q : Exit → Act → World → Prop} (hQ : ∀ σ' M' a' w', K σ' M' → RG cx M' σ' a' w' → Q .normal a' w') : ∀ (t : OT),
    (∀ n listed σ M a w j, ordChk ops t listed (n + 1) = true → ordG P ops cx K t σ M → RG cx M σ a w → j ∈ t.heads → wpOp P ops Q j (fun a' w' => wpAny P .any ops Q n (listed.setIfInBounds j true) a' w') a w) ∧
    (∀ n listed σ M a w, ordChk ops t listed n = true → (∀ j ∈ Region.ready .any ops listed, j ∈ t.heads) → t.some_ = true → ordG P ops cx K t σ M → RG cx M σ a w → wpAny P .any ops Q n listed a w)
  | .done => ⟨fun _ _ _ _ _ _ j _ _ _ hj => by simp [OT.heads] at hj, fun n listed σ M a w _ hr _ hw r => by
      refine wpAny_done ?_ (hQ σ M a w hw r) _
      cases he : Region.ready .any ops listed with
      | nil => rfl
      | cons i t => exact absurd (hr i (by rw [he]; simp)) (by simp [OT.heads])⟩
  | .none => ⟨fun _ _ _ _ _ _ j _ _ _ hj => by simp [OT.heads] at hj, fun _ _ _ _ _ _ _ _ h => by cases h⟩
  | .alt i t r => by
    have hA : ∀ n listed σ M a w j, ordChk ops (.alt i t r) listed (n + 1) = true → ordG P ops cx K (.alt i t r) σ M → RG cx M σ a w → j ∈ (OT.alt i t r).heads → wpOp P ops Q j (fun a' w' => wpAny P .any ops Q n (listed.setIfInBounds j true) a' w') a w := by
      intro n listed σ M a w j hc hw hr hj; unfold ordChk at hc; simp only [Bool.and_eq_true, List.all_eq_true, List.any_eq_true] at hc; obtain ⟨⟨⟨⟨_, h1⟩, h2⟩, h3⟩, h4⟩ := hc; rcases List.mem_cons.1 hj with rfl | hj
      · refine hw.1 _ _ a w hr fun σ' M' a' w' hK r' => ?_; refine (ordG_ok hQ t).2 n _ σ' M' _ _ h3 (fun k hk => ?_) h1 hK r'; obtain ⟨x, hx, he⟩ := h2 k hk; rw [← nb_eq he]; exact hx
      · exact (ordG_ok hQ r).1 n listed σ M a w j h4 hw.2 hr hj
    refine ⟨hA, fun n listed σ M a w hc hr hs hw r0 => ?_⟩
    cases n with
    | zero => unfold ordChk at hc; cases hc
    | succ n =>
      refine ⟨fun he => ?_, fun j hj => hA n listed σ M a w j hc hw r0 (hr j hj)⟩; unfold ordChk at hc; rw [he] at hc; simp at hc
def GhDrew (M : Gh) : Prop := ∀ U ρ h w, M U ρ h w → M U ρ h { w with drawn := w.drawn + 1 }
theorem RG.drew (hM : GhDrew M) {a : Act} {w : World} (r : RG cx M σ a w) : RG cx M σ a { w with drawn := w.drawn + 1 } := by
  obtain ⟨U, ρ, r, m⟩ := r; have t : Tr U w U { w with drawn := w.drawn + 1 } := ⟨⟨rfl, rfl, rfl, Nat.le_refl _, fun _ _ _ => rfl⟩, fun _ _ h => h⟩
  refine ⟨U, ρ, ⟨r.size, r.defers, fun t' => (r.env t').tr t (Ext.refl _ _), ⟨fun id b hb => ?_, r.hr.apart, r.hr.inU⟩, ?_, r.newU, r.oldU, r.places, r.ext⟩, hM U ρ _ w m⟩
  · exact (r.hr.blk id b hb).tr hb t (Ext.refl _ _) (fun _ _ _ => rfl) (fun _ _ => rfl)
  · exact r.agree.trans ⟨rfl, rfl, rfl, Nat.le_refl _, fun _ _ _ => rfl⟩ fun _ _ h => h
theorem WG.ord {id : Nat} {Q : Exit → St → Gh → Prop} (t : OT) (hM : GhDrew M) (hm : P.follows .mixedOrders = true) (hc : (t.some_ && ((Region.ready .any ops (Array.replicate ops.size false)).all fun j => t.heads.any fun i => nb i j) && ordChk ops t (Array.replicate ops.size false) ops.size) = true)
    (hw : ordG P ops cx (fun σ' M' => Q .normal σ' M') t σ M) : WG P cx (.region id ops true) σ M Q := fun a w r => by
  simp only [Bool.and_eq_true, List.all_eq_true, List.any_eq_true] at hc; obtain ⟨⟨h1, h2⟩, h3⟩ := hc; refine wp_region_any hm ?_
  exact (ordG_ok (cx := cx) (Q := fun e a' w' => ∃ σ' M', Q e σ' M' ∧ RG cx M' σ' a' w') (fun σ' M' a' w' hl r' => ⟨σ', M', hl, r'⟩) t).2 _ _ σ M a _ h3 (fun k hk => by
    obtain ⟨x, hx, he⟩ := h2 k hk
    rw [← nb_eq he]; exact hx) h1 hw (r.drew hM)
variable {U : Nat → Prop} {ρ : Nat → Value} {a : Act} {w w1 : World}
theorem R0.other {X : Nat → Prop} (r : R0 cx U ρ σ a w) (ag : Agree X w w1) (hX : ∀ k, X k → k < w.heap.size → U k ∧ ¬ Wr ρ σ.heap k ∧ (cx.W0 k ∨ cx.w0.heap.size ≤ k)) : R0 cx U ρ σ a w1 := by
  have t : Tr U w U w1 := ⟨ag.mono fun b hb hx => (hX b hx hb).1, fun _ _ h => h⟩
  refine ⟨r.size, r.defers, fun t' => (r.env t').tr t (Ext.refl _ _), ⟨fun id b hb => ?_, r.hr.apart, fun i g hi => ⟨(r.hr.inU i g hi).1, Nat.lt_of_lt_of_le (r.hr.inU i g hi).2 ag.size⟩⟩, ?_, r.newU, r.oldU, r.places, r.ext⟩
  · exact (r.hr.blk id b hb).tr hb t (Ext.refl _ _) (fun _ _ _ => rfl) fun g hg => ag.block g (r.hr.inU id g hg).2 fun hx => (hX g hx (r.hr.inU id g hg).2).2.1 ⟨id, hg⟩
  · exact r.agree.trans ag fun b hb hx => ((hX b hx (Nat.lt_of_lt_of_le hb r.agree.size)).2.2).resolve_right (by omega)
theorem R0.pushRow {e : Nat} {k : K} {xs : List k.T} {v : Value} (r : R0 cx U ρ σ a w) (hb : BR U (fun _ => v) [] w 0 (.row e k xs)) (hn : ∀ g, v.ownBlock = some g → U g ∧ ¬ Wr ρ σ.heap g ∧ (cx.W0 g ∨ cx.w0.heap.size ≤ g) ∧ g < w.heap.size) :
    R0 cx U (upd ρ σ.heap.length v) { σ with heap := σ.heap ++ [.row e k xs] } a w := by
  have hpl : place (upd ρ σ.heap.length v) (σ.heap ++ [.row e k xs]) σ.heap.length = v.ownBlock := by
    unfold place; rw [get_push, upd_at]
  have hcase : ∀ i g, place (upd ρ σ.heap.length v) (σ.heap ++ [.row e k xs]) i = some g → (i < σ.heap.length ∧ place ρ σ.heap i = some g) ∨ (i = σ.heap.length ∧ v.ownBlock = some g) := fun i g hi => by
    have li := place_lt hi; simp at li; rcases Nat.lt_or_ge i σ.heap.length with h | h
    · exact .inl ⟨h, by rw [place_push_lt h] at hi; exact hi⟩
    · obtain rfl : i = σ.heap.length := by omega
      exact .inr ⟨rfl, hpl.symm.trans hi⟩
  refine ⟨r.size, r.defers, fun t => (r.env t).tr (Tr.refl _ _) (Ext.push _ _ _ _), ⟨fun id b hid => ?_, fun i j g hi hj => ?_, fun i g hi => ?_⟩, r.agree, r.newU, r.oldU, fun i g hi => ?_, r.ext.trans (Ext.push _ _ _ _)⟩
  · rcases Nat.lt_or_ge id σ.heap.length with hl | hl
    · have hid : (σ.heap ++ [Blk.row e k xs])[id]? = some b := hid; rw [get_push_lt hl] at hid; exact (r.hr.blk id b hid).tr hid (Tr.refl _ _) (Ext.push _ _ _ _) (fun x _ e => by subst e; exact upd_ne (Nat.ne_of_lt hl)) (fun _ _ => rfl)
    · have hid : (σ.heap ++ [Blk.row e k xs])[id]? = some b := hid; have hl2 : id < (σ.heap ++ [Blk.row e k xs]).length := (List.getElem?_eq_some_iff.1 hid).1; obtain rfl : id = σ.heap.length := by simp at hl2; omega
      rw [get_push] at hid; obtain rfl := Option.some.inj hid; obtain ⟨cs, h1, h2⟩ := hb; exact ⟨cs, by rw [upd_at]; exact h1, h2⟩
  · rcases hcase i g hi with ⟨_, h1⟩ | ⟨rfl, h1⟩ <;> rcases hcase j g hj with ⟨_, h2⟩ | ⟨rfl, h2⟩
    · exact r.hr.apart i j g h1 h2
    · exact absurd ⟨i, h1⟩ (hn g h2).2.1
    · exact absurd ⟨j, h2⟩ (hn g h1).2.1
    · rfl
  · rcases hcase i g hi with ⟨_, h1⟩ | ⟨_, h1⟩
    · exact r.hr.inU i g h1
    · exact ⟨(hn g h1).1, (hn g h1).2.2.2⟩
  · rcases hcase i g hi with ⟨_, h1⟩ | ⟨_, h1⟩
    · exact r.places i g h1
    · exact (hn g h1).2.2.1
theorem Wr.push {e : Nat} {k : K} {xs : List k.T} {v : Value} {h : List Blk} {g : Nat} (hw : Wr (upd ρ h.length v) (h ++ [.row e k xs]) g) : Wr ρ h g ∨ v.ownBlock = some g := by
  obtain ⟨i, hi⟩ := hw; have li := place_lt hi; simp at li; rcases Nat.lt_or_ge i h.length with h1 | h1
  · rw [place_push_lt h1] at hi; exact .inl ⟨i, hi⟩
  · obtain rfl : i = h.length := by omega
    unfold place at hi; rw [get_push, upd_at] at hi; exact .inr hi
theorem Ext.dead (ρ : Nat → Value) (h : List Blk) (id : Nat) : Ext ρ h ρ (h.set id .dead) := by
  refine ⟨by simp, fun i k hi hk => ⟨?_, rfl⟩, fun i hi hk => ⟨?_, rfl⟩⟩
  · by_cases he : id = i
    · subst he; unfold rowK at hk; rw [get_set hi] at hk
      cases hk
    · unfold rowK at hk ⊢; rw [get_set_ne he] at hk; exact hk
  · by_cases he : id = i
    · subst he; unfold isBox at hk; rw [get_set hi] at hk
      cases hk
    · unfold isBox at hk ⊢; rw [get_set_ne he] at hk; exact hk
theorem place_dead {h : List Blk} {id i g : Nat} (hi : place ρ (h.set id .dead) i = some g) : i ≠ id ∧ place ρ h i = some g := by
  by_cases he : id = i
  · subst he; have hl := place_lt hi; simp at hl; unfold place at hi; rw [get_set hl] at hi
    cases hi
  · refine ⟨fun e => he e.symm, ?_⟩; unfold place at hi ⊢; rw [get_set_ne he] at hi; exact hi
theorem R0.kill (r : R0 cx U ρ σ a w) (id : Nat) : R0 cx U ρ { σ with heap := σ.heap.set id .dead } a w := by
  refine ⟨r.size, r.defers, fun t => (r.env t).tr (Tr.refl _ _) (Ext.dead _ _ _), ⟨fun i b hb => ?_, fun i j g hi hj => r.hr.apart i j g (place_dead hi).2 (place_dead hj).2, fun i g hi => r.hr.inU i g (place_dead hi).2⟩, r.agree, r.newU, r.oldU, fun i g hi => r.places i g (place_dead hi).2, r.ext.trans (Ext.dead _ _ _)⟩; have hb : (σ.heap.set id .dead)[i]? = some b := hb
  by_cases he : id = i
  · subst he; have hl : id < (σ.heap.set id .dead).length := (List.getElem?_eq_some_iff.1 hb).1; simp at hl; rw [get_set hl] at hb; obtain rfl := Option.some.inj hb; trivial
  · rw [get_set_ne he] at hb; exact (r.hr.blk i b hb).tr hb (Tr.refl _ _) (Ext.dead _ _ _) (fun _ _ _ => rfl) (fun _ _ => rfl)
theorem R0.less {U1 : Nat → Prop} (r : R0 cx U ρ σ a w) (hu : ∀ b, U1 b → U b) (hp : ∀ i g, place ρ σ.heap i = some g → U1 g) (ho : ∀ b, b < cx.w0.heap.size → U b → U1 b ∨ cx.W0 b) : R0 cx U1 ρ σ a w := by
  have t : Tr U w U1 w := ⟨Agree.refl _ _, fun b _ h => hu b h⟩
  refine ⟨r.size, r.defers, fun t' => (r.env t').tr t (Ext.refl _ _), ⟨fun id b hb => ?_, r.hr.apart, fun i g hi => ⟨hp i g hi, (r.hr.inU i g hi).2⟩⟩, r.agree, fun b hb h => r.newU b hb (hu b h), fun b hb h => ?_, r.places, r.ext⟩
  · exact (r.hr.blk id b hb).tr hb t (Ext.refl _ _) (fun _ _ _ => rfl) (fun _ _ => rfl)
  · rcases r.oldU b hb h with h | h
    · exact ho b hb h
    · exact .inr h
end
end Go.Den
end
section
-- the texts that this claim needs, out of this session's and its print's (wip/shrink.py)
namespace Go.Den
open Go Go.RowKit Go.Proofs Go.Proofs.YtibfkkjkahpobaaGreat.PDag
open Go.ChangeMaps (setBlock heap_setBlock_same heap_setBlock_other)
@[reducible] def kS : K := .pair (.int .i64) (.pair (.int .i64) .unit)
structure OwnM (cx : Cx) (b : Nat) (o : Obj) (v : S24 → Value) (g : S24 → List kS.T) (D : S24 → Prop) (U : Nat → Prop) (ρ : Nat → Value) (h : List Blk) (w : World) : Prop where
  obj : w.heap[b]? = some o
  foot : U b ∧ ¬ Wr ρ h b ∧ (cx.W0 b ∨ cx.w0.heap.size ≤ b)
  row : ∀ x, okI x = true → D x → ∃ cs, w.ownsRow 0 98 kS.sz (v x) (g x).length cs ∧ Lie (KS U w kS) kS.sz (g x) cs
  blk : ∀ x, okI x = true → D x → ∀ k, (v x).ownBlock = some k → U k ∧ ¬ Wr ρ h k ∧ (cx.W0 k ∨ cx.w0.heap.size ≤ k) ∧ k < w.heap.size ∧ k ≠ b
  apart : ∀ x y, okI x = true → okI y = true → D x → D y → ∀ k, (v x).ownBlock = some k → (v y).ownBlock = some k → x = y
section
variable {cx : Cx} {b n : Nat} {o : Obj} {v : S24 → Value} {g : S24 → List kS.T} {D : S24 → Prop} {U U1 : Nat → Prop} {ρ ρ1 : Nat → Value} {h h1 : List Blk} {w w1 : World}
theorem lt_of_obj (hb : w.heap[b]? = some o) : b < w.heap.size := by
  obtain ⟨h, _⟩ := Array.getElem?_eq_some_iff.1 hb; exact h
theorem Go1.free (gg : Go1 U ρ h w U1 ρ1 h1 w1) {k : Nat} (hu : U k) (hn : ¬ Wr ρ h k) (hl : k < w.heap.size) : U1 k ∧ ¬ Wr ρ1 h1 k ∧ w1.heap[k]? = w.heap[k]? :=
  ⟨(gg.keep k hl hu).resolve_right hn, fun ⟨i, hi⟩ => (gg.places i k hi).elim hn (by omega), gg.agree.block k hl hn⟩
theorem OwnM.stay (m : OwnM cx b o v g D U ρ h w) (hr : HR U ρ h w) (gg : Go1 U ρ h w U1 ρ1 h1 w1) : OwnM cx b o v g D U1 ρ1 h1 w1 := by
  have hb := lt_of_obj m.obj; have fb := gg.free m.foot.1 m.foot.2.1 hb; refine ⟨fb.2.2.trans m.obj, ⟨fb.1, fb.2.1, m.foot.2.2⟩, fun x hx hd => ?_, fun x hx hd k hk => ?_, m.apart⟩
  · obtain ⟨cs, h2, h3⟩ := m.row x hx hd; refine ⟨cs, ownsRow_move h2 fun k hk => ?_, h3.imp fun _ _ hc => hc.tr (gg.tr hr)⟩; have hk' := m.blk x hx hd k hk; exact (gg.free hk'.1 hk'.2.1 hk'.2.2.2.1).2.2
  · have hk' := m.blk x hx hd k hk; have fk := gg.free hk'.1 hk'.2.1 hk'.2.2.2.1; exact ⟨fk.1, fk.2.1, hk'.2.2.1, Nat.lt_of_lt_of_le hk'.2.2.2.1 gg.agree.size, hk'.2.2.2.2⟩
theorem OwnM.cut (m : OwnM cx b o v g D U ρ h w) (hw : ∀ k, Wr ρ1 h1 k → Wr ρ h k) : OwnM cx b o v g D U ρ1 h1 w :=
  ⟨m.obj, ⟨m.foot.1, fun hk => m.foot.2.1 (hw b hk), m.foot.2.2⟩, m.row, fun x hx hd k hk => by
    have hk' := m.blk x hx hd k hk
    exact ⟨hk'.1, fun hq => hk'.2.1 (hw k hq), hk'.2.2⟩, m.apart⟩
theorem tr_drew : Tr U w U { w with drawn := w.drawn + 1 } := ⟨⟨rfl, rfl, rfl, Nat.le_refl _, fun _ _ _ => rfl⟩, fun _ _ h => h⟩
theorem OwnM.drew (m : OwnM cx b o v g D U ρ h w) : OwnM cx b o v g D U ρ h { w with drawn := w.drawn + 1 } :=
  ⟨m.obj, m.foot, fun x hx hd => by
    obtain ⟨cs, h2, h3⟩ := m.row x hx hd
    exact ⟨cs, ownsRow_move h2 fun k hk => rfl, h3.imp fun _ _ hc => hc.tr tr_drew⟩, m.blk, m.apart⟩
def MO (cx : Cx) (b : Nat) (g : S24 → List kS.T) (n : Nat) : Gh := fun U ρ h w => ∃ o v, MapOk o v n ∧ OwnM cx b o v g (fun _ => True) U ρ h w
def MI (cx : Cx) (b : Nat) (g : S24 → List kS.T) (n : Nat) (x : S24) (st : Nat) : Gh := fun U ρ h w => ∃ o1 v, (∃ es1 clock1, o1 = .map es1 clock1) ∧
  (∀ (w2 : World) (val : Value), w2.heap[b]? = some o1 → ∃ es' clock', (Instr.entryStore 115 (.map (some b)) (goInt st) val).run Tryz.prog w2 = .ok () (setBlock w2 b (.map es' clock')) ∧ MapOk (.map es' clock') (fun y => if eqI y x = true then val else v y) (n + 1)) ∧
  OwnM cx b o1 v g (fun y => y ≠ x) U ρ h w
def MR (cx : Cx) (b : Nat) (g : S24 → List kS.T) (n : Nat) : Gh := fun U ρ h w => ∃ o v, MapOk o v n ∧ w.heap[b]? = some o ∧ (U b ∧ ¬ Wr ρ h b ∧ (cx.W0 b ∨ cx.w0.heap.size ≤ b)) ∧ ∀ x, okI x = true → KS U w (.row 98 kS) (g x) [v x]
theorem wr_cut {src : List Nat} (hp : ∀ i g, place (ρcut ρ src) (heapCut src h) i = some g → Wr ρ h g) : ∀ k, Wr (ρcut ρ src) (heapCut src h) k → Wr ρ h k := fun k ⟨i, hi⟩ => hp i k hi
theorem MO.ok : GhOk (MO cx b g n) := ⟨fun hr ⟨o, v, h1, h2⟩ gg => ⟨o, v, h1, h2.stay hr gg⟩, fun src _ hp ⟨o, v, h1, h2⟩ => ⟨o, v, h1, h2.cut (wr_cut hp)⟩⟩
theorem MO.drew : GhDrew (MO cx b g n) := fun U ρ h w ⟨o, v, h1, h2⟩ => ⟨o, v, h1, h2.drew⟩
theorem MI.ok {x : S24} {st : Nat} : GhOk (MI cx b g n x st) := ⟨fun hr ⟨o, v, h0, h1, h2⟩ gg => ⟨o, v, h0, h1, h2.stay hr gg⟩, fun src _ hp ⟨o, v, h0, h1, h2⟩ => ⟨o, v, h0, h1, h2.cut (wr_cut hp)⟩⟩
theorem MR.ok : GhOk (MR cx b g n) := ⟨fun {U ρ h w U1 ρ1 h1 w1} hr ⟨o, v, m1, m2, m3, m4⟩ gg => by
    have fb := gg.free m3.1 m3.2.1 (lt_of_obj m2); exact ⟨o, v, m1, fb.2.2.trans m2, ⟨fb.1, fb.2.1, m3.2.2⟩, fun x hx => KS.tr (k := .row 98 kS) (m4 x hx) (gg.tr hr)⟩,
  fun src _ hp ⟨o, v, m1, m2, m3, m4⟩ => ⟨o, v, m1, m2, ⟨m3.1, fun hk => m3.2.1 (wr_cut hp b hk), m3.2.2⟩, m4⟩⟩
theorem MR.drew : GhDrew (MR cx b g n) := fun U ρ h w ⟨o, v, m1, m2, m3, m4⟩ => ⟨o, v, m1, m2, m3, fun x hx => KS.tr (k := .row 98 kS) (m4 x hx) tr_drew⟩
theorem set_agree {es : Array MapEntry} {clock : Nat} (hb : w.heap[b]? = some (.map es clock)) (o1 : Obj) : Agree (fun k => k = b) w (setBlock w b o1) :=
  ⟨rfl, rfl, rfl, by show _ ≤ (w.heap.setIfInBounds b o1).size; simp, fun k hk hn => heap_setBlock_other hb o1 hn⟩
theorem Go1.grown (hr : HR U ρ h w) (ag : Agree (fun _ => False) w w1) (hb : b = w.heap.size) (hl : b < w1.heap.size) : Go1 U ρ h w (fun x => (U x ∧ x < w.heap.size) ∨ x = b) ρ h w1 := by
  have less : ∀ x, x < w.heap.size → ((U x ∧ x < w.heap.size) ∨ x = b) → U x := fun x hx hu => hu.elim (·.1) (by omega); have tr : Tr U w (fun x => (U x ∧ x < w.heap.size) ∨ x = b) w1 := ⟨ag.mono (fun _ _ h => h.elim), less⟩
  exact ⟨ag.mono (fun _ _ h => h.elim), less, fun x hx hu => .inl (.inl ⟨hu, hx⟩), ⟨fun id bk hid => (hr.blk id bk hid).tr hid tr (Ext.refl _ _) (fun _ _ _ => rfl) (fun k hk => ag.block k (hr.inU id k hk).2 (fun h => h)), hr.apart, fun i k hi => ⟨.inl (hr.inU i k hi), Nat.lt_of_lt_of_le (hr.inU i k hi).2 ag.size⟩⟩, Ext.refl _ _, fun i k hi => .inl ⟨i, hi⟩⟩
theorem owns_one {base : Nat} {e : TypeId} {size m : Nat} {u : Value} {cs : List Value} (h : w.ownsRow base e size u m cs) : u.oneCell' = true := by
  rcases h.2 with ⟨rfl, _⟩ | ⟨_, _, _, rfl, _⟩ <;> rfl
theorem owns_nil : w.ownsRow 0 98 kS.sz nilV 0 [] := by
  refine ⟨?_, .inl ⟨rfl, rfl⟩⟩; simp
variable {σ : St} {ops : Array Oper} {i d : Nat} {op : Oper} {K' : St → Gh → Prop} {x : S24} {tm tk ts tv : Operand}
theorem run_v {P : Program} {a : Act} {u : Value} {s : Sem Value} (hs : execOp a.eval op = (do let y ← s; pure (.value y))) (hr : s.run P w = .ok u w1) : (execOp a.eval op).run P w = .ok (.value u) w1 := by
  rw [hs]; simp [hr, Result.andThen]
theorem run_u {P : Program} {a : Act} {s : Sem Unit} (hs : execOp a.eval op = (do s; pure .skip)) (hr : s.run P w = .ok () w1) : (execOp a.eval op).run P w = .ok .skip w1 := by
  rw [hs]; simp [hr, Result.andThen]
end
end Go.Den
end
section
-- the texts that this claim needs, out of this session's and its print's (wip/shrink.py)
namespace Go.Den
open Go Go.RowKit Go.Proofs Go.Proofs.YtibfkkjkahpobaaGreat.PDag
open Go.ChangeMaps (setBlock heap_setBlock_same heap_setBlock_other)
section
variable {P : Program} {cx : Cx} {σ : St} {M : Gh} {ops : Array Oper} {tb : Tb} {i : Nat}
theorem StepG.rawU {o : Oper} {K : St → Gh → Prop} (hi : ops[i]? = some o) (hg : o.guard = none) (hd : o.dst = none)
    (hr : ∀ a w U ρ, R0 cx U ρ σ a w → M U ρ σ.heap w → ∃ w1 U1 ρ1 h1 M1, ((execOp a.eval o).run P w = .ok .skip w1) ∧ R0 cx U1 ρ1 { σ with heap := h1 } a w1 ∧ M1 U1 ρ1 h1 w1 ∧ K { σ with heap := h1 } M1) : StepG P ops cx i σ M K := fun Q K' a w ⟨U, ρ, r, m⟩ hk => by
  obtain ⟨w1, U1, ρ1, h1, M1, hrun, r1, m1, hK⟩ := hr a w U ρ r m; unfold wpOp; simp only [hi]; have hwant : Region.wanted o (yielded ops a.tmps) = true := by unfold Region.wanted; rw [hg]
  rw [if_pos hwant]; refine .inl ?_; unfold Oper.wp; rw [hrun]; refine hk _ M1 _ _ hK ?_; rw [hd]; exact ⟨U1, ρ1, r1, m1⟩
theorem WG.seqR {id : Nat} {y : Code} {Q : Exit → St → Gh → Prop} (tok : TbOk P tb) (hM : GhOk M) (σ1 : St) (h : opsA P tb ops ops.toList σ (fun σ' => σ' = σ1)) (hk : WG P cx y σ1 M Q) : WG P cx (.seq (.region id ops false) y) σ M Q := by
  refine WG.seq (WG.reg ?_); have := RunG.den (cx := cx) (ops := ops) (Q := thenG Q fun σ' M' => WG P cx y σ' M' Q) tok hM σ1 (RunG.nil hk) ops.size 0 σ (by omega) (by rw [List.drop_zero, List.take_of_length_le (by simp)]; exact h)
  rwa [List.append_nil] at this
theorem WG.regR {id : Nat} {Q : Exit → St → Gh → Prop} (tok : TbOk P tb) (hM : GhOk M) (σ1 : St) (h : opsA P tb ops ops.toList σ (fun σ' => σ' = σ1)) (hk : Q .normal σ1 M) : WG P cx (.region id ops false) σ M Q := by
  refine WG.reg ?_; have := RunG.den (cx := cx) (ops := ops) (Q := Q) tok hM σ1 (RunG.nil hk) ops.size 0 σ (by omega) (by rw [List.drop_zero, List.take_of_length_le (by simp)]; exact h)
  rwa [List.append_nil] at this
end
attribute [simp] opsA
section
variable {cx : Cx} {b n : Nat} {g : S24 → List kS.T} {σ : St} {ops : Array Oper} {i d : Nat} {op : Oper} {K' : St → Gh → Prop} {x : S24} {tm tk ts tv : Operand}
theorem StepG.makeMap (hi : ops[i]? = some op) (ho : op.op = .makeMap 115 none) (hg : op.guard = none) (hd : op.dst = some d) (hn : d < σ.n) (hk : ∀ b, K' { env := putE (some d) (.raw (.map (some b))) σ.env, heap := σ.heap, n := σ.n } (MO cx b (fun _ => []) 0)) : StepG Tryz.prog ops cx i σ gh0 K' := by
  refine StepG.raw hi hg (fun d' hd' => by rw [hd] at hd'; obtain rfl := Option.some.inj hd'; exact hn) fun a w U ρ r m => ?_; have hs : (w.alloc (.map #[] 0)).heap.size = w.heap.size + 1 := by show (w.heap.push _).size = _; simp
  have ag : Agree (fun _ => False) w (w.alloc (.map #[] 0)) := ⟨rfl, rfl, rfl, by omega, fun k hk _ => by show (w.heap.push _)[k]? = _; simp [Array.getElem?_push, Nat.ne_of_lt hk]⟩
  have gg := Go1.grown r.hr ag (b := w.heap.size) rfl (by omega); refine ⟨.map (some w.heap.size), w.alloc (.map #[] 0), _, ρ, .raw (.map (some w.heap.size)), σ.heap, MO cx w.heap.size (fun _ => []) 0, run_v (by unfold execOp; rw [ho]) rfl, r.step gg, ⟨_, _, map_made, ?_⟩, rfl, by rw [hd]; exact hk _⟩; refine ⟨by show (w.heap.push _)[w.heap.size]? = _; simp, ⟨.inr rfl, fun ⟨j, hj⟩ => absurd (r.hr.inU j _ hj).2 (Nat.lt_irrefl _), .inr r.agree.size⟩, fun x _ _ => ⟨[], owns_nil, by simp [Lie]⟩, fun x _ _ k hk => ?_, fun x y _ _ _ _ k hk => ?_⟩ <;> (simp [nilV, Value.ownBlock] at hk)
theorem StepG.mapEntry (hi : ops[i]? = some op) (ho : op.op = .mapEntry 115 tm tk) (hg : op.guard = none) (hd : op.dst = some d) (hn : d < σ.n) (hm : σ.ev tm = .raw (.map (some b))) (ht : σ.ev tk = .agg (kIns.flat (f24 x))) (hx : okI x = true) (hnl : n < maxLen)
    (hk : ∀ st, K' { env := putE (some d) (.tup [(false, [.own σ.heap.length]), (false, [.int .i64 (st : Nat)])]) σ.env, heap := σ.heap ++ [.row 98 kS (g x)], n := σ.n } (MI cx b g n x st)) : StepG Tryz.prog ops cx i σ (MO cx b g n) K' := by
  refine StepG.raw hi hg (fun d' hd' => by rw [hd] at hd'; obtain rfl := Option.some.inj hd'; exact hn) fun a w U ρ r ⟨o, v, hmo, m⟩ => ?_; have e1 := r.ev tm; rw [hm] at e1; have e1 : a.eval tm = .map (some b) := e1; have e2 := r.ev tk; rw [ht] at e2; obtain ⟨cs, e2, e3⟩ := e2; obtain rfl := insVal e3; have e2 : a.eval tk = keyV x := e2; obtain ⟨st, o1, ho1, hrun, hst⟩ := map_entry hmo m.obj hx hnl; obtain ⟨es, clock, ho2, _⟩ := hmo; subst ho2; have hbl := lt_of_obj m.obj; have ag := set_agree m.obj o1; have tr : Tr U w U (setBlock w b o1) := ⟨ag.mono fun k _ hk => by rw [hk]; exact m.foot.1, fun _ _ h => h⟩
  have r1 := r.other ag (fun k hk _ => by rw [hk]; exact m.foot)
  have hrow : ∀ y, okI y = true → ∃ cs, (setBlock w b o1).ownsRow 0 98 kS.sz (v y) (g y).length cs ∧ Lie (KS U (setBlock w b o1) kS) kS.sz (g y) cs := fun y hy => by
    obtain ⟨cs, h2, h3⟩ := m.row y hy trivial; exact ⟨cs, ownsRow_move h2 fun k hk => ag.block k (m.blk y hy trivial k hk).2.2.2.1 (m.blk y hy trivial k hk).2.2.2.2, h3.imp fun _ _ hc => hc.tr tr⟩
  have hs : (setBlock w b o1).heap.size = w.heap.size := by show (w.heap.setIfInBounds b o1).size = _; simp
  have r2 := r1.pushRow (e := 98) (k := kS) (xs := g x) (v := v x) (hrow x hx) fun k hk => by
    have := m.blk x hx trivial k hk; exact ⟨this.1, this.2.1, this.2.2.1, by rw [hs]; exact this.2.2.2.1⟩
  have hone : (v x).oneCell' = true := by
    obtain ⟨cs, h2, _⟩ := m.row x hx trivial; exact owns_one h2
  refine ⟨.tuple #[v x, goInt st], setBlock w b o1, U, _, .tup [(false, [.own σ.heap.length]), (false, [.int .i64 (st : Nat)])], _, MI cx b g n x st, run_v (u := .tuple #[v x, goInt st]) (by unfold execOp; rw [ho]) (by rw [e1, e2]; exact hrun), r2, ⟨o1, v, ho1, hst, ?_⟩, ?_, by rw [hd]; exact hk st⟩
  · refine ⟨heap_setBlock_same m.obj o1, ⟨m.foot.1, fun hw => ?_, m.foot.2.2⟩, fun y hy _ => hrow y hy, fun y hy hyx k hk => ?_, fun y z hy hz _ _ => m.apart y z hy hz trivial trivial⟩
    · rcases hw.push with h1 | h1
      · exact m.foot.2.1 h1
      · exact (m.blk x hx trivial b h1).2.2.2.2 rfl
    · have hb := m.blk y hy trivial k hk; refine ⟨hb.1, fun hw => ?_, hb.2.2.1, by rw [hs]; exact hb.2.2.2.1, hb.2.2.2.2⟩; rcases hw.push with h1 | h1
      · exact hb.2.1 h1
      · exact hyx (m.apart y x hy hx trivial trivial k hk h1)
  · refine ⟨_, rfl, All2.cons ⟨.own σ.heap.length, rfl, hone, by simp, fun _ _ => (upd_at _ _ _).symm⟩ (All2.cons ⟨.int .i64 (st : Nat), rfl, rfl⟩ All2.nil)⟩
theorem StepG.entryStore {id st : Nat} {ys : List kS.T} (hi : ops[i]? = some op) (ho : op.op = .entryStore 115 tm ts tv) (hg : op.guard = none) (hd : op.dst = none) (hm : σ.ev tm = .raw (.map (some b))) (ht : σ.ev ts = .one (.int .i64 (st : Nat))) (hv : σ.ev tv = .one (.own id)) (hid : σ.heap[id]? = some (.row 98 kS ys)) (hx : okI x = true)
    (hk : K' { σ with heap := σ.heap.set id .dead } (MO cx b (fun y => if eqI y x = true then ys else g y) (n + 1))) : StepG Tryz.prog ops cx i σ (MI cx b g n x st) K' := by
  refine StepG.rawU hi hg hd fun a w U ρ r ⟨o1, v, ⟨es1, clock1, ho1⟩, hst, m⟩ => ?_; subst ho1; have e1 := r.ev tm; rw [hm] at e1; have e1 : a.eval tm = .map (some b) := e1; have e2 := r.ev ts; rw [ht] at e2; have e2 : a.eval ts = goInt st := e2; have e3 := r.ev tv; rw [hv] at e3; have e3 : a.eval tv = ρ id := e3.2.2 kS (rowK_row hid); obtain ⟨cs, h1, h2⟩ := r.hr.blk _ _ hid; obtain ⟨es', clock', hrun, hmo⟩ := hst w (ρ id) m.obj; have hpl : ∀ k, (ρ id).ownBlock = some k → place ρ σ.heap id = some k := fun k hk => by rw [place_row hid]; exact hk
  have ag := set_agree m.obj (.map es' clock'); have tr : Tr U w U (setBlock w b (.map es' clock')) := ⟨ag.mono fun k _ hk => by rw [hk]; exact m.foot.1, fun _ _ h => h⟩
  have r1 := (r.other ag (fun k hk _ => by rw [hk]; exact m.foot)).kill id; have hs : (setBlock w b (.map es' clock')).heap.size = w.heap.size := by show (w.heap.setIfInBounds b _).size = _; simp
  have hdead : ∀ k, Wr ρ (σ.heap.set id .dead) k → Wr ρ σ.heap k ∧ (ρ id).ownBlock ≠ some k := fun k ⟨j, hj⟩ => by
    obtain ⟨h3, h4⟩ := place_dead hj; exact ⟨⟨j, h4⟩, fun h5 => h3 (r.hr.apart j id k h4 (hpl k h5))⟩
  have hxb : ∀ k, (ρ id).ownBlock = some k → U k ∧ ¬ Wr ρ (σ.heap.set id .dead) k ∧ (cx.W0 k ∨ cx.w0.heap.size ≤ k) ∧ k < w.heap.size ∧ k ≠ b := fun k hk => by
    have hp := hpl k hk; exact ⟨(r.hr.inU _ _ hp).1, fun h => (hdead k h).2 hk, r.places _ _ hp, (r.hr.inU _ _ hp).2, fun e => m.foot.2.1 (e ▸ ⟨id, hp⟩)⟩
  refine ⟨_, U, ρ, σ.heap.set id .dead, MO cx b (fun y => if eqI y x = true then ys else g y) (n + 1), run_u (by unfold execOp; rw [ho]) (by rw [e1, e2, e3]; exact hrun), r1, ⟨_, _, hmo, ?_⟩, hk⟩; have hne : ∀ {y}, ¬ eqI y x = true → y ≠ x := fun h e => h (by rw [e]; exact eqI_self x); refine ⟨heap_setBlock_same m.obj _, ⟨m.foot.1, fun h => m.foot.2.1 (hdead b h).1, m.foot.2.2⟩, fun y hy _ => ?_, fun y hy _ k hk => ?_, fun y z hy hz _ _ k h3 h4 => ?_⟩
  · by_cases he : eqI y x = true
    · rw [if_pos he, if_pos he]; exact ⟨cs, ownsRow_move h1 fun k hk => ag.block k (hxb k hk).2.2.2.1 (hxb k hk).2.2.2.2, h2.imp fun _ _ hc => hc.tr tr⟩
    · rw [if_neg he, if_neg he]; obtain ⟨cs, h3, h4⟩ := m.row y hy (hne he); exact ⟨cs, ownsRow_move h3 fun k hk => ag.block k (m.blk y hy (hne he) k hk).2.2.2.1 (m.blk y hy (hne he) k hk).2.2.2.2, h4.imp fun _ _ hc => hc.tr tr⟩
  · rw [hs]
    by_cases he : eqI y x = true
    · rw [if_pos he] at hk; exact hxb k hk
    · rw [if_neg he] at hk; have hb := m.blk y hy (hne he) k hk; exact ⟨hb.1, fun h => hb.2.1 (hdead k h).1, hb.2.2⟩
  · by_cases he : eqI y x = true <;> by_cases hf : eqI z x = true
    · rw [eqI_eq he, eqI_eq hf]
    · rw [if_pos he] at h3; rw [if_neg hf] at h4; exact absurd ⟨id, hpl k h3⟩ (m.blk z hz (hne hf) k h4).2.1
    · rw [if_neg he] at h3; rw [if_pos hf] at h4; exact absurd ⟨id, hpl k h4⟩ (m.blk y hy (hne he) k h3).2.1
    · rw [if_neg he] at h3; rw [if_neg hf] at h4; exact m.apart y z hy hz (hne he) (hne hf) k h3 h4
theorem LeG.read : LeG cx σ (MO cx b g n) σ (MR cx b g n) := fun a w ⟨U, ρ, r, o, v, hmo, m⟩ => by
  have r1 := r.less (U1 := fun k => U k ∧ ∀ x, okI x = true → (v x).ownBlock ≠ some k) (fun _ h => h.1) (fun j k hj => ⟨(r.hr.inU j k hj).1, fun x hx hk => (m.blk x hx trivial k hk).2.1 ⟨j, hj⟩⟩) fun k hk hu => by
    by_cases hq : ∃ x, okI x = true ∧ (v x).ownBlock = some k
    · obtain ⟨x, hx, hq⟩ := hq; exact .inr ((m.blk x hx trivial k hq).2.2.1.resolve_right (by omega))
    · exact .inl ⟨hu, fun x hx hk' => hq ⟨x, hx, hk'⟩⟩
  refine ⟨_, ρ, r1, o, v, hmo, m.obj, ⟨⟨m.foot.1, fun x hx hk => (m.blk x hx trivial b hk).2.2.2.2 rfl⟩, m.foot.2⟩, fun x hx => ?_⟩; obtain ⟨cs, h1, h2⟩ := m.row x hx trivial; exact KS.of_owns h1 h2 (fun _ _ h => h.1) fun k hk hu => hu.2 x hx hk
theorem StepG.lookup (hi : ops[i]? = some op) (ho : op.op = .lookup 115 tm tk false) (hg : op.guard = none) (hd : op.dst = some d) (hn : d < σ.n) (hm : σ.ev tm = .raw (.map (some b))) (ht : σ.ev tk = .agg (kIns.flat (f24 x))) (hx : okI x = true)
    (hk : K' { env := putE (some d) (.one (.row 98 kS (g x))) σ.env, heap := σ.heap, n := σ.n } (MR cx b g n)) : StepG Tryz.prog ops cx i σ (MR cx b g n) K' := by
  refine StepG.raw hi hg (fun d' hd' => by rw [hd] at hd'; obtain rfl := Option.some.inj hd'; exact hn) fun a w U ρ r ⟨o, v, hmo, hobj, hft, hrow⟩ => ?_; have e1 := r.ev tm; rw [hm] at e1; have e1 : a.eval tm = .map (some b) := e1; have e2 := r.ev tk; rw [ht] at e2; obtain ⟨cs, e2, e3⟩ := e2; obtain rfl := insVal e3; have e2 : a.eval tk = keyV x := e2; exact ⟨v x, w, U, ρ, .one (.row 98 kS (g x)), σ.heap, MR cx b g n, run_v (by unfold execOp; rw [ho]) (by rw [e1, e2]; exact map_look hmo hobj hx), r, ⟨o, v, hmo, hobj, hft, hrow⟩, hrow x hx, by rw [hd]; exact hk⟩
theorem StepG.mapUpdate {ys : List kS.T} (hi : ops[i]? = some op) (ho : op.op = .mapUpdate 115 tm tk tv) (hg : op.guard = none) (hd : op.dst = none) (hm : σ.ev tm = .raw (.map (some b))) (ht : σ.ev tk = .agg (kIns.flat (f24 x))) (hv : σ.ev tv = .one (.row 98 kS ys)) (hx : okI x = true) (hn : n < maxLen)
    (hk : K' σ (MR cx b (fun y => if eqI y x = true then ys else g y) (n + 1))) : StepG Tryz.prog ops cx i σ (MR cx b g n) K' := by
  refine StepG.rawU hi hg hd fun a w U ρ r ⟨o, v, hmo, hobj, hft, hrow⟩ => ?_; have e1 := r.ev tm; rw [hm] at e1; have e1 : a.eval tm = .map (some b) := e1; have e2 := r.ev tk; rw [ht] at e2; obtain ⟨cs, e2, e3⟩ := e2; obtain rfl := insVal e3; have e2 : a.eval tk = keyV x := e2; have e4 := r.ev tv; rw [hv] at e4; have e4 : KS U w (.row 98 kS) ys [a.eval tv] := e4; obtain ⟨es', clock', hrun, hmo'⟩ := map_upd hmo hobj hx hn (a.eval tv); obtain ⟨es, clock, ho2, _⟩ := hmo; subst ho2; have ag := set_agree hobj (.map es' clock'); have tr : Tr U w U (setBlock w b (.map es' clock')) := ⟨ag.mono fun k _ hk => by rw [hk]; exact hft.1, fun _ _ h => h⟩
  refine ⟨_, U, ρ, σ.heap, MR cx b (fun y => if eqI y x = true then ys else g y) (n + 1), run_u (by unfold execOp; rw [ho]) (by rw [e1, e2]; exact hrun), r.other ag (fun k hk _ => by rw [hk]; exact hft), ⟨_, _, hmo', heap_setBlock_same hobj _, hft, fun y hy => ?_⟩, hk⟩
  by_cases he : eqI y x = true
  · rw [if_pos he, show (fun y => if eqI y x = true then ys else g y) y = ys from if_pos he]; exact KS.tr (k := .row 98 kS) e4 tr
  · rw [if_neg he, show (fun y => if eqI y x = true then ys else g y) y = g y from if_neg he]; exact KS.tr (k := .row 98 kS) (hrow y hy) tr
end
end Go.Den
end
section
-- the texts that this claim needs, out of this session's and its print's (wip/shrink.py)
namespace Go.Den
open Go Go.RowKit
section
variable {P : Program} {cx : Cx} {σ : St} {M : Gh} {ops : Array Oper} {tb : Tb}
theorem WG.mono {c : Code} {Q Q' : Exit → St → Gh → Prop} (h : WG P cx c σ M Q) (hq : ∀ e σ' M', Q e σ' M' → Q' e σ' M') : WG P cx c σ M Q' := fun a w r => wp_mono (h a w r) fun e a' w' ⟨σ', M', h1, r'⟩ => ⟨σ', M', hq _ _ _ h1, r'⟩
theorem WG.seqTo {c y : Code} {Q : Exit → St → Gh → Prop} (σ1 : St) (M1 : Gh) (h : WG P cx c σ M (thenG Q fun σ' M' => LeG cx σ' M' σ1 M1)) (hk : WG P cx y σ1 M1 Q) : WG P cx (.seq c y) σ M Q :=
  WG.seq (h.mono fun e σ' M' he => by
    cases e with
    | normal => exact WG.le he hk
    | _ => exact he)
theorem WG.ordTo {id : Nat} {Q : Exit → St → Gh → Prop} (t : OT) (σ1 : St) (M1 : Gh) (hM : GhDrew M) (hm : P.follows .mixedOrders = true) (hc : (t.some_ && ((Region.ready .any ops (Array.replicate ops.size false)).all fun j => t.heads.any fun i => nb i j) && ordChk ops t (Array.replicate ops.size false) ops.size) = true)
    (hw : ordG P ops cx (fun σ' M' => LeG cx σ' M' σ1 M1) t σ M) (hk : Q .normal σ1 M1) : WG P cx (.region id ops true) σ M Q := fun a w r => by
  simp only [Bool.and_eq_true, List.all_eq_true, List.any_eq_true] at hc; obtain ⟨⟨h1, h2⟩, h3⟩ := hc; refine wp_region_any hm ?_
  exact (ordG_ok (cx := cx) (Q := fun e a' w' => ∃ σ' M', Q e σ' M' ∧ RG cx M' σ' a' w') (fun σ' M' a' w' hl r' => ⟨σ1, M1, hk, hl a' w' r'⟩) t).2 _ _ σ M a _ h3 (fun k hk => by
    obtain ⟨x, hx, he⟩ := h2 k hk
    rw [← nb_eq he]; exact hx) h1 hw (r.drew hM)
theorem RunG.dens {Q : Exit → St → Gh → Prop} (tok : TbOk P tb) (hM : GhOk M) {js is : List Nat} (n i : Nat) (hj : js = List.range' i n ++ is) (hs : nle (i + n) ops.size = true) (σ1 : St) (h : opsA P tb ops ((ops.toList.drop i).take n) σ (fun σ' => σ' = σ1)) (hk : RunG P ops cx is σ1 M Q) : RunG P ops cx js σ M Q := by
  subst hj; exact RunG.den tok hM σ1 hk n i σ (nle_le hs) h
end
attribute [simp] putE
end Go.Den
end
section
-- the texts that this claim needs, out of this session's and its print's (wip/shrink.py)
namespace Go.Den
open Go Go.RowKit
def StepX (P : Program) (ops : Array Oper) (cx : Cx) (i : Nat) (σ : St) (K : St → Prop) : Prop := ∀ (Q : Exit → Act → World → Prop) (K' : Act → World → Prop) a w, R cx σ a w → (∀ σ' a' w', K σ' → R cx σ' a' w' → K' a' w') → wpOp P ops Q i K' a w
def uniqChk (ops : Array Oper) : Bool := (List.range ops.size).all fun i => (List.range ops.size).all fun j => nb i j || match dstOf ops i with
  | some t => !((dstOf ops j).any fun t' => nb t' t)
  | none => true
section
variable {P : Program} {cx : Cx} {σ : St} {ops : Array Oper} {tb : Tb} {i : Nat}
theorem uniq_of (h : uniqChk ops = true) {i j t : Nat} (hi : dstOf ops i = some t) (hj : dstOf ops j = some t) : i = j := by
  have lt : ∀ {k}, dstOf ops k = some t → k < ops.size := fun {k} hk => by
    unfold dstOf at hk; split at hk
    · rename_i ho; exact (Array.getElem?_eq_some_iff.1 ho).1
    · cases hk
  unfold uniqChk at h; simp only [List.all_eq_true, List.mem_range] at h; have := h i (lt hi) j (lt hj); rw [hi] at this; simp only [Bool.or_eq_true] at this; rcases this with this | this
  · exact nb_eq this
  · rw [any_beq hj] at this; cases this
theorem StepX.den (tok : TbOk P tb) {ow : Bool} {o : Oper} {K : St → Prop} (hi : ops[i]? = some o) (hw : stepA P tb ops ow o σ fun s h1 => σ.put o.dst s h1 K) : StepX P ops cx i σ K := fun Q K' a w ⟨U, ρ, r⟩ hk =>
  stepA_ok tok hi hw r fun s h1 v w1 U1 ρ1 hK g hs => by
    obtain ⟨σ', hK', r'⟩ := put_ok hK r g hs; exact hk _ _ _ hK' r'
theorem StepX.raw {o : Oper} {K : St → Prop} (hi : ops[i]? = some o) (hg : o.guard = none) (hd : ∀ d, o.dst = some d → d < σ.n)
    (hr : ∀ a w U ρ, R0 cx U ρ σ a w → ∃ v w1 U1 ρ1 s h1, ((execOp a.eval o).run P w = .ok (.value v) w1) ∧ R0 cx U1 ρ1 { σ with heap := h1 } a w1 ∧ SR U1 ρ1 h1 w1 s v ∧ K { env := putE o.dst s σ.env, heap := h1, n := σ.n }) : StepX P ops cx i σ K := fun Q K' a w ⟨U, ρ, r⟩ hk => by
  obtain ⟨v, w1, U1, ρ1, s, h1, hrun, r1, hs, hK⟩ := hr a w U ρ r; unfold wpOp; simp only [hi]; have hwant : Region.wanted o (yielded ops a.tmps) = true := by unfold Region.wanted; rw [hg]
  rw [if_pos hwant]; refine .inl ?_; unfold Oper.wp; rw [hrun]; refine hk _ _ _ hK ?_
  cases hdd : o.dst with
  | none => exact ⟨U1, ρ1, r1⟩
  | some d => exact ⟨U1, ρ1, r1.put (s := s) (hd d hdd) hs⟩
structure Fr (ops : Array Oper) (sl : Nat → S → Prop) (HP : (Nat → Prop) → List Blk → Prop) (σ : St) (D : Nat → Prop) (σ' : St) : Prop where
  n : σ'.n = σ.n
  heap : HP D σ'.heap
  frame : ∀ t, (∀ j, dstOf ops j = some t → ¬ D j) → σ'.get t = σ.get t
  slot : ∀ j t, D j → dstOf ops j = some t → sl j (σ'.get t)
theorem free_any {Q : Exit → Act → World → Prop} {sl : Nat → S → Prop} {HP : (Nat → Prop) → List Blk → Prop} (hb : backChk ops = true) (hu : uniqChk ops = true)
    (step : ∀ (D : Nat → Prop) i o σ', ops[i]? = some o → ¬ D i → (∀ j, edge ops i j = true → D j) → (∀ k j, D k → edge ops k j = true → D j) → Fr ops sl HP σ D σ' → StepX P ops cx i σ' fun σ'' => ∃ s h1, σ'' = { env := putE o.dst s σ'.env, heap := h1, n := σ'.n } ∧ sl i s ∧ HP (fun x => x = i ∨ D x) h1)
    (fin : ∀ (D : Nat → Prop) σ' a w, (∀ j, j < ops.size → D j) → Fr ops sl HP σ D σ' → R cx σ' a w → Q .normal a w) :
    ∀ u listed σ' a w, cnt listed 0 ops.size = u → LOk ops listed → Fr ops sl HP σ (Lst listed) σ' → R cx σ' a w → wpAny P .any ops Q u listed a w := by
  intro u
  induction u with
  | zero =>
    intro listed σ' a w hc hL hf r; have hall := cnt_zero ops.size 0 hc; refine wpAny_done ?_ (fin _ σ' a w (fun j hj => hall j (Nat.zero_le _) (by omega)) hf r) _
    cases hr : Region.ready .any ops listed with
    | nil => rfl
    | cons i t =>
      have hi := ready_of (ops := ops) (listed := listed) (i := i) (by rw [hr]; simp)
      exact absurd (hall i (Nat.zero_le _) (by omega)) hi.1
  | succ u ih =>
    intro listed σ' a w hc hL hf r; refine ⟨fun hr => ?_, fun i hi => ?_⟩
    · exfalso
      have hall : ∀ j, j < ops.size → Lst listed j := by
        intro j
        induction j using Nat.strongRecOn with
        | _ j ihj =>
          intro hj; refine Classical.byContradiction fun hnl => ?_; have := ready_to hL.size hj hnl fun j' he => ihj j' (back_of hb he) (by have := back_of hb he; omega); rw [hr] at this
          cases this
      have hz : ∀ (n lo : Nat), lo + n ≤ ops.size → cnt listed lo n = 0 := by
        intro n
        induction n with
        | zero => intro lo _; rfl
        | succ n ih =>
          intro lo h; unfold cnt; rw [if_pos (show listed.getD lo false = true from hall lo (by omega)), ih (lo + 1) (by omega)]
      have := hz ops.size 0 (by omega); omega
    · obtain ⟨hni, his, hp⟩ := ready_of hi; have ho : ops[i]? = some ops[i] := by simp [his]
      have hlt : i < listed.size := by rw [hL.size]; exact his
      have hnew : (∀ x, Lst (listed.setIfInBounds i true) x ↔ x = i ∨ Lst listed x) := fun x => lst_set hlt; have hD : (fun x => x = i ∨ Lst listed x) = Lst (listed.setIfInBounds i true) := by funext x; exact propext (hnew x).symm
      have hdi : dstOf ops i = ops[i].dst := dst_of ho; refine step (Lst listed) i _ σ' ho hni hp hL.dc hf _ _ a w r fun σ'' a' w' hK r' => ?_; obtain ⟨s, h1, rfl, hs, hh⟩ := hK; refine ih _ { env := putE ops[i].dst s σ'.env, heap := h1, n := σ'.n } a' w' (by have := cnt_set hlt hni ops.size 0 (Nat.zero_le _) (by omega); omega) ⟨by rw [Array.size_setIfInBounds]; exact hL.size, fun k j hk he => ?_⟩ ⟨hf.n, by rw [← hD]; exact hh, fun t ht => ?_, fun j t hj hdj => ?_⟩ r'
      · rcases (hnew k).1 hk with rfl | hk
        · exact (hnew j).2 (.inr (hp j he))
        · exact (hnew j).2 (.inr (hL.dc k j hk he))
      · show look (putE _ _ _) t = _; rw [look_putE, if_neg fun h => ht i (by rw [hdi]; exact h) ((hnew i).2 (.inl rfl))]; exact hf.frame t fun j hj hx => ht j hj ((hnew j).2 (.inr hx))
      · show sl j (look (putE _ _ _) t); rw [look_putE]; split
        · rename_i h
          rw [uniq_of hu hdj (show dstOf ops i = some t by rw [hdi]; exact h)]; exact hs
        · rename_i h
          have hji : j ≠ i := fun e => h (by rw [← hdi, ← e]; exact hdj); exact hf.slot j t (((hnew j).1 hj).resolve_left hji) hdj
theorem W.free {id : Nat} {Q : Exit → St → Prop} (sl : Nat → S → Prop) (HP : (Nat → Prop) → List Blk → Prop) (hm : P.follows .mixedOrders = true) (hb : (backChk ops && uniqChk ops) = true) (h0 : HP (fun _ => False) σ.heap)
    (step : uniqChk ops = true → ∀ (D : Nat → Prop) i o σ', ops[i]? = some o → ¬ D i → (∀ j, edge ops i j = true → D j) → (∀ k j, D k → edge ops k j = true → D j) → Fr ops sl HP σ D σ' → StepX P ops cx i σ' fun σ'' => ∃ s h1, σ'' = { env := putE o.dst s σ'.env, heap := h1, n := σ'.n } ∧ sl i s ∧ HP (fun x => x = i ∨ D x) h1)
    (fin : ∀ (D : Nat → Prop) σ', (∀ j, j < ops.size → D j) → Fr ops sl HP σ D σ' → ∃ σ1, Q .normal σ1 ∧ Le cx σ' σ1) : W P cx (.region id ops true) σ Q := fun a w r => by
  obtain ⟨hb1, hb2⟩ : backChk ops = true ∧ uniqChk ops = true := by simpa using hb
  refine wp_region_any hm ?_
  have hn : ∀ j, ¬ Lst (Array.replicate ops.size false) j := fun j h => by
    unfold Lst at h; rw [Array.getD_eq_getD_getElem?, Array.getElem?_replicate] at h; split at h <;> simp at h
  have hcnt : ∀ (n lo : Nat), cnt (Array.replicate ops.size false) lo n = n := by
    intro n
    induction n with
    | zero => intro lo; rfl
    | succ n ih =>
      intro lo; unfold cnt; rw [if_neg (show ¬ (Array.replicate ops.size false).getD lo false = true from hn lo), ih (lo + 1)]; omega
  have hD : Lst (Array.replicate ops.size false) = fun _ => False := by funext j; exact propext ⟨hn j, fun h => h.elim⟩
  exact free_any (cx := cx) (σ := σ) (Q := fun e a' w' => ∃ σ', Q e σ' ∧ R cx σ' a' w') hb1 hb2 (step hb2) (fun D σ' a' w' hall hf r' => by
    obtain ⟨σ1, h1, h2⟩ := fin D σ' hall hf
    exact ⟨σ1, h1, h2 _ _ r'⟩) _ _ σ a _ (hcnt _ _) ⟨by simp, fun k j hk => absurd hk (hn k)⟩ ⟨rfl, by rw [hD]; exact h0, fun t _ => rfl, fun j t hj => absurd hj (hn j)⟩ r.drew
end
end Go.Den
end
section
-- the texts that this claim needs, out of this session's and its print's (wip/shrink.py)
namespace Go.Den
open Go Go.RowKit
section
variable {P : Program} {cx : Cx} {σ : St} {ops : Array Oper} {tb : Tb} {U : Nat → Prop} {ρ : Nat → Value} {h : List Blk} {w : World}
theorem run_v' {op : Oper} {w1 : World} {a : Act} {u : Value} {s : Sem Value} (hs : execOp a.eval op = (do let y ← s; pure (.value y))) (hr : s.run P w = .ok u w1) : (execOp a.eval op).run P w = .ok (.value u) w1 := by
  rw [hs]; simp [hr, Result.andThen]
theorem sub_of {t te id e : Nat} {k : K} {xs : List k.T} {i j : TI} {vlo vhi : Option Value} {l r : Int} (ok : TbOk P tb) (hi : Tb.at tb t = some i) (hd : i.d = .slice te) (hj : Tb.at tb te = some j) (hks : k.sz = j.sz) (hr : HR U ρ h w) (hid : h[id]? = some (.row e k xs))
    (h1 : (vlo = none ∧ l = 0) ∨ ∃ kk, vlo = some (.int kk l)) (h2 : (vhi = none ∧ r = (xs.length : Int)) ∨ ∃ kk, vhi = some (.int kk r)) (hp : 0 ≤ l ∧ l ≤ r ∧ r ≤ (xs.length : Int)) :
    ∃ v, (Instr.sliceAt t (ρ id) vlo vhi none).run P w = .ok v w ∧ CR U ρ h w (.sub id l.toNat r.toNat) v := by
  obtain ⟨cs, o1, o2⟩ := hr.blk _ _ hid
  have hv : ∃ A c, ρ id = .slice A xs.length c ∧ xs.length ≤ c := by
    rcases o1.2 with ⟨e1, h0⟩ | ⟨g, cap, cur, e1, h3, h4, h5, _⟩
    · exact ⟨none, 0, by rw [e1, h0], by omega⟩
    · exact ⟨_, cap, e1, h5⟩
  obtain ⟨A, c, hv, hc⟩ := hv; have hu := (ok.at hi).slice hd; have hb := run_bounds (P := P) (w := w) (len := xs.length) (cap := c) true h1 h2 hp hc; refine ⟨.slice (if c = l.toNat then A else A.map (·.add (l.toNat * j.sz))) (r.toNat - l.toNat) (c - l.toNat), ?_, rfl, (List.getElem?_eq_some_iff.1 hid).1, fun k' hk' => ?_⟩
  · rw [hv]; simp [Instr.sliceAt, Instr.slice, run_underlying hu, hb, (ok.at hj).sizeOf w]
  · rw [rowK_row hid] at hk'; obtain rfl := Option.some.inj hk'; exact ⟨A, xs.length, c, hv, by omega, by omega, hc, by rw [hks]⟩
theorem del_of {t e id n m : Nat} {k : K} {xs : List k.T} {i j : TI} {v vx : Value} (ok : TbOk P tb) (hi : Tb.at tb t = some i) (hd : i.d = .slice e) (hj : Tb.at tb e = some j) (hks : k.sz = j.sz) (hsz : 0 < k.sz) (hby : 0 < j.by_) (hr : HR U ρ h w) (hid : h[id]? = some (.row e k xs)) (hpos : 0 < xs.length)
    (hv : CR U ρ h w (.sub id 0 n) v) (hx : CR U ρ h w (.sub id m xs.length) vx) (hn : n ≤ xs.length) (hm : m ≤ xs.length) (hrow : rowB j.by_ (n + (xs.length - m))) (ty : Nat) :
    ValOk P U ρ h w (Builtin.append_ #[t, t] ty #[v, vx]) (.one (.own h.length)) (h.set id .dead ++ [.row e k (xs.take n ++ xs.drop m)]) := by
  obtain ⟨A, n1, c, e1, _, h2, h3, e2⟩ := hv.2.2 k (rowK_row hid); obtain ⟨A', n2, c', e3, h4, h5, h6, e4⟩ := hx.2.2 k (rowK_row hid); obtain ⟨cs, o1, o2⟩ := hr.blk _ _ hid; rcases o1.2 with ⟨e5, h0⟩ | ⟨g, cap, cur, e5, g3, g4, g5, g6, g7, g8⟩
  · omega
  rw [e5] at e1 e3; injection e1 with a1 a2 a3
  injection e3 with b1 b2 b3
  subst a1 a2 a3 b1 b2 b3; have hc0 : ¬ cap = 0 := by omega
  have hcl : cs.length = xs.length * k.sz := o1.1; have hz : (⟨g, 0, none⟩ : Addr).add (0 * k.sz) = ⟨g, 0, none⟩ := by rw [Nat.zero_mul, Addr.add_lit]
  have ev : v = .slice (some ⟨g, 0, none⟩) n cap := by
    rw [e2, if_neg hc0, Option.map_some, hz, Nat.sub_zero, Nat.sub_zero]
  have ho : w.ownsRow 0 e k.sz v n (cs.take (n * k.sz)) := by
    refine ⟨by rw [List.length_take, hcl, Nat.min_eq_left (Nat.mul_le_mul_right _ hn)], .inr ⟨g, cap, cur, ev, g3, g4, by omega, g6, g7, ?_⟩⟩; rw [← g8, List.take_take, Nat.min_eq_left (Nat.mul_le_mul_right _ hn)]
  have hcell := o1.cells (g := g) (by rw [e5]; rfl)
  have hlie2 : Lie (KS U w k) k.sz (xs.drop m) (cs.drop (m * k.sz)) := by
    refine ⟨by rw [List.length_drop, List.length_drop, hcl, Nat.sub_mul], fun q p hq => ?_⟩; rw [List.getElem?_drop] at hq; have := o2.2 _ p hq; rw [List.drop_drop, show m * k.sz + q * k.sz = (m + q) * k.sz by rw [Nat.add_mul]]; exact this
  have hlie : Lie (KS U w k) k.sz (xs.take n) (cs.take (n * k.sz)) := o2.take hn; have hzl : j.z.length = k.sz := (zlen (ok.at hj)).trans hks.symm
  obtain ⟨v', w', r1, r2, r3, r4⟩ := run_append (P := P) (news := cs.drop (m * k.sz)) ((ok.at hi).slice hd) (ok.at hj) hsz hks hby ho e4 (fun hp => by
      have hcm : ¬ cap = m := by omega
      refine ⟨(⟨g, 0, none⟩ : Addr).add (m * k.sz), by rw [if_neg hcm]; rfl, fun q u hq => ?_⟩; rw [List.getElem?_drop] at hq; rw [add_add']
      exact hcell _ u hq) (by rw [List.length_drop, hcl, Nat.sub_mul]) (hlie2.ones hsz) hzl hrow ty
  have hob : v.ownBlock = (ρ id).ownBlock := by rw [ev, e5]; rfl
  rw [hob] at r3 r4; refine ⟨v', w', _, _, r1, Go1.renew (v := v') hr hid r3 r4 (by rw [List.length_append, List.length_take, List.length_drop, Nat.min_eq_left hn]; exact r2) (fun U1 tr => ?_), ?_⟩
  · exact (hlie.imp fun _ _ hc => hc.tr tr).append (hlie2.imp fun _ _ hc => hc.tr tr)
  · refine ⟨?_, by simp, fun _ _ => (upd_at _ _ _).symm⟩; rcases r2.2 with ⟨rfl, _⟩ | ⟨g, cap, cur, rfl, _⟩ <;> rfl
variable {i d t te id e : Nat} {k : K} {xs : List k.T} {ti tj : TI} {op : Oper} {K' : St → Prop} {tx tlo thi : Operand}
theorem StepX.slice {lo hi : Option Operand} {l r : Int} (tok : TbOk P tb) (hi' : ops[i]? = some op) (ho : op.op = .slice t tx lo hi none) (hg : op.guard = none) (hd : op.dst = some d) (hn : d < σ.n) (h1 : Tb.at tb t = some ti) (h2 : ti.d = .slice te) (h3 : Tb.at tb te = some tj) (h4 : k.sz = tj.sz)
    (hx : σ.ev tx = .one (.own id)) (hid : σ.heap[id]? = some (.row e k xs)) (hlo : (lo = none ∧ l = 0) ∨ ∃ x kk, lo = some x ∧ σ.ev x = .one (.int kk l)) (hhi : (hi = none ∧ r = (xs.length : Int)) ∨ ∃ x kk, hi = some x ∧ σ.ev x = .one (.int kk r)) (hp : 0 ≤ l ∧ l ≤ r ∧ r ≤ (xs.length : Int))
    (hk : K' { env := putE (some d) (.one (.sub id l.toNat r.toNat)) σ.env, heap := σ.heap, n := σ.n }) : StepX P ops cx i σ K' := by
  refine StepX.raw hi' hg (fun d' hd' => by rw [hd] at hd'; obtain rfl := Option.some.inj hd'; exact hn) fun a w U ρ r0 => ?_; have e1 := r0.ev tx; rw [hx] at e1; have e1 : a.eval tx = ρ id := e1.2.2 k (rowK_row hid)
  have b1 : (lo.map a.eval = none ∧ l = 0) ∨ ∃ kk, lo.map a.eval = some (.int kk l) := by
    rcases hlo with ⟨rfl, rfl⟩ | ⟨x, kk, rfl, hx⟩
    · exact .inl ⟨rfl, rfl⟩
    · have := r0.ev x; rw [hx] at this; exact .inr ⟨kk, congrArg some this⟩
  have b2 : (hi.map a.eval = none ∧ r = (xs.length : Int)) ∨ ∃ kk, hi.map a.eval = some (.int kk r) := by
    rcases hhi with ⟨rfl, rfl⟩ | ⟨x, kk, rfl, hx⟩
    · exact .inl ⟨rfl, rfl⟩
    · have := r0.ev x; rw [hx] at this; exact .inr ⟨kk, congrArg some this⟩
  obtain ⟨v, hrun, hc⟩ := sub_of tok h1 h2 h3 h4 r0.hr hid b1 b2 hp; exact ⟨v, w, U, ρ, .one (.sub id l.toNat r.toNat), σ.heap, run_v' (by unfold execOp; rw [ho]) (by rw [e1]; exact hrun), r0, hc, by rw [hd]; exact hk⟩
theorem StepX.del {n m : Nat} {ta tbb : Operand} (tok : TbOk P tb) (hi' : ops[i]? = some op) (ho : op.op = .call { callee := .builtin .append, args := #[ta, tbb], argTypes := #[t, t] }) (hg : op.guard = none) (hd : op.dst = some d) (hn' : d < σ.n) (h1 : Tb.at tb t = some ti) (h2 : ti.d = .slice e) (h3 : Tb.at tb e = some tj) (h4 : k.sz = tj.sz) (h5 : 0 < k.sz) (h6 : 0 < tj.by_)
    (hid : σ.heap[id]? = some (.row e k xs)) (hpos : 0 < xs.length) (ha : σ.ev ta = .one (.sub id 0 n)) (hb : σ.ev tbb = .one (.sub id m xs.length)) (hn : n ≤ xs.length) (hm : m ≤ xs.length) (hrow : rowB tj.by_ (n + (xs.length - m)))
    (hk : K' { env := putE (some d) (.one (.own σ.heap.length)) σ.env, heap := σ.heap.set id .dead ++ [.row e k (xs.take n ++ xs.drop m)], n := σ.n }) : StepX P ops cx i σ K' := by
  refine StepX.raw hi' hg (fun d' hd' => by rw [hd] at hd'; obtain rfl := Option.some.inj hd'; exact hn') fun a w U ρ r0 => ?_; have e1 := r0.ev ta; rw [ha] at e1; have e2 := r0.ev tbb; rw [hb] at e2; obtain ⟨v1, w1, U1, ρ1, g1, g2, g3⟩ := del_of tok h1 h2 h3 h4 h5 h6 r0.hr hid hpos e1 e2 hn hm hrow op.type; refine ⟨v1, w1, U1, ρ1, .one (.own σ.heap.length), _, ?_, r0.step g2, g3, by rw [hd]; exact hk⟩; unfold execOp; rw [ho]; simp [resolve, invoke, builtin, g1]
end
end Go.Den
end
