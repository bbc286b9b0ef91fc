import Derived.Test.YtibfkkjkahpobaaHd19
import Derived.Test.YtibfkkjkahpobaaHd24
import Derived.Test.YtibfkkjkahpobaaHd21
import Derived.WideMake
import Derived.Maps.OwnOps
import Derived.Maps.OwnSet
import Derived.Maps.Views
import Derived.Test.YtibfkkjkahpobaaHd26
import Derived.Test.YtibfkkjkahpobaaHd31
import Derived.Test.YtibfkkjkahpobaaHd25
import Derived.Maps.GroupsBeside
import Derived.WideKeyEntry
import Derived.DeepKeys4
set_option linter.unusedVariables false
set_option linter.unusedSimpArgs false
set_option maxHeartbeats 8000000
set_option maxRecDepth 100000
open Go.RowKit Go.Proofs.YtibfkkjkahpobaaW.PrintWords Go.Proofs.YtibfkkjkahpobaaW.PrintLast Go.Proofs.YtibfkkjkahpobaaW.PrintMore
section
namespace Go.Proofs.Ytibfkkjkahpobaa.PDag
attribute [local go_sem] max2_int min2_int max_two min_two max_three min_three max_four min_four
theorem block_May_1.calls (k : Nat) (a0_0 : Int) (a0_1 : Int) (a0_2 : Int) (a0_3 : Int) (a0_4 : Int) (a0_5 : ByteArray) (r : Bool) (w : World) (h : dag_May_1.f k a0_0 a0_1 a0_2 a0_3 a0_4 a0_5 = some r) :
    Calls Try.prog 112 #[.agg #[.int .i64 a0_0, .int .i64 a0_1, .int .i64 a0_2, .int .i64 a0_3, .int .i64 a0_4, .string a0_5]] w fun e w' => e = .returned (.bool r) ∧ Below w.heap.size w w' := by
  have hu24 := Try.underlying24; have HB := aM_ (Below.refl w.heap.size w); have H : ((block_Plain.f k a0_0 a0_1 a0_2 a0_3 a0_4 a0_5).bind fun t125 => (some (!t125))) = some r := h; clear h; obtain ⟨t125, A2, H⟩ := oB_ H; obtain rfl := oI_ H; go_enter Try.func112, Try.ntmps112
  go_wp2_with (first | ((with_reducible refine gate_dst (N := 1) rfl ?_); refine bX_ (N := 1) (cs := #[.int .i64 a0_0, .int .i64 a0_1, .int .i64 a0_2, .int .i64 a0_3, .int .i64 a0_4, .string a0_5]) (t := 24) ?_; intro gb124 hg w3 hbox hb; replace BK124 := aM_ (hbox); replace GW124 := aM_ (gE_ hg (bl_ HB)); replace GE124 := aM_ (gE_ hg (bl_ HB)); replace HB := aM_ (bT_ (bl_ HB) hb); clear hb hbox hg; obtain ⟨hcz4_0, hcz4_1, hcz4_2, hcz4_3, hcz4_4, hcz4_5⟩ := cl6_ BK124.out; obtain ⟨hfz4_0, hfz4_1, hfz4_2, hfz4_3, hfz4_4, hfz4_5⟩ := fz6_ BK124.out) | ((with_reducible refine gC_ (f := 90) rfl ?_); refine gL_ (some 4) Try.func90 #[.agg #[.int .i64 a0_0, .int .i64 a0_1, .int .i64 a0_2, .int .i64 a0_3, .int .i64 a0_4, .string a0_5]] rfl ?_; (with_reducible refine (block_Plain.calls k a0_0 a0_1 a0_2 a0_3 a0_4 a0_5 t125 _ A2.out).mono ?_); rintro e w5 ⟨rfl, hb⟩; refine ⟨_, rfl, ?_⟩; replace BK124 := aM_ (kB_ (rB_ BK124) hb); replace HB := aM_ (bT_ (bs_ HB GE124) hb)))
  go_ret; exact ⟨eR_, bs_ HB GE124⟩
theorem aI112_114112.calls (k : Nat) (A0 : Option Addr) (c0 : Nat) (l0 : List (S24))  (r : Int) (w : World) (hr0 : Kd.C k24 w A0 l0.length l0) (hc0 : l0.length ≤ c0) (h : aI89_114089.f k l0 = some r) :
    Calls Try.prog 114 #[.slice A0 l0.length c0, .func (.func 112) #[] #[]] w fun e w' => e = .returned (.int .i64 r) ∧ Below w.heap.size w w' := by
  have hu24 := Try.underlying24; have HR0 := aM_ hr0; have HC0 := aM_ hc0; clear hr0 hc0; have HB := aM_ (Below.refl w.heap.size w); have H : (aI89_114089.l0 k l0 (l0.length : Int) 0) = some r := h; clear h; replace H := aM_ H; go_enter Try.func114, Try.ntmps114; go_wp2
  go_loopg [8] k (fun kq v8 w' => ∃ (x8_1 : Int), v8 = .int .i64 x8_1 ∧ As_ (aI89_114089.l0 kq l0 (l0.length : Int) x8_1 = some r) ∧ As_ (kq ≤ k) ∧ As_ (Below w.heap.size w w'))
  case atStart => exact ⟨(0), eQ_, H, ⟨Nat.le_refl _⟩, ⟨bl_ HB⟩⟩
  case round =>
    clear H
    (try clear c1); (try clear p2)
    obtain ⟨x8_1, rfl, HA, HK1, HB⟩ := hrel
    cases gk with
    | zero => exact absurd HA.out (by simp [aI89_114089.l0])
    | succ k1 =>
      have H := HA.out; clear HA; simp only [aI89_114089.l0] at H
      by_cases c3 : x8_1 < (l0.length : Int)
      · rw [if_pos c3] at H; have c3b0 := dE_ c3; clear c3
        by_cases c4 : 0 ≤ x8_1
        · rw [if_pos c4] at H; have c4b0 := dE_ c4; clear c4
          by_cases c5 : x8_1 < (l0.length : Int)
          · rw [if_pos c5] at H; have c5b0 := dE_ c5; clear c5; obtain ⟨t127, A6, H⟩ := oB_ H
            by_cases c7 : t127 = true
            · subst c7; rw [if_pos rfl] at H; obtain rfl := oI_ H; have p126 : 0 ≤ (x8_1 : Int) := oD_; have q126 : x8_1 < (l0.length : Int) := oD_; obtain ⟨ad126, e126, hx126_0, hx126_1, hx126_2, hx126_3, hx126_4, hx126_5⟩ := at_T24 HR0.out x8_1 p126 q126
              cases e126
              replace hx126_0 := hC_ HB hx126_0; replace hx126_1 := hC_ HB hx126_1; replace hx126_2 := hC_ HB hx126_2; replace hx126_3 := hC_ HB hx126_3; replace hx126_4 := hC_ HB hx126_4; replace hx126_5 := hC_ HB hx126_5; replace p126 := eq_true p126; replace q126 := eq_true q126
              go_wp2_with (first | (go_at_call 112; (with_reducible refine (block_May_1.calls k1 ((J24 l0 x8_1).f0) ((J24 l0 x8_1).f1) ((J24 l0 x8_1).f2) ((J24 l0 x8_1).f3) ((J24 l0 x8_1).f4) ((J24 l0 x8_1).f5) true _ A6.out).mono ?_); rintro e w8 ⟨rfl, hb⟩; replace HB := aM_ (bT_ (bl_ HB) hb)))
              go_ret; exact ⟨eR_, bl_ HB⟩
            · replace c7 := eF_ c7; subst c7; rw [if_neg Bool.false_ne_true] at H; replace H := aM_ H; have p126 : 0 ≤ (x8_1 : Int) := oD_; have q126 : x8_1 < (l0.length : Int) := oD_; obtain ⟨ad126, e126, hx126_0, hx126_1, hx126_2, hx126_3, hx126_4, hx126_5⟩ := at_T24 HR0.out x8_1 p126 q126
              cases e126
              replace hx126_0 := hC_ HB hx126_0; replace hx126_1 := hC_ HB hx126_1; replace hx126_2 := hC_ HB hx126_2; replace hx126_3 := hC_ HB hx126_3; replace hx126_4 := hC_ HB hx126_4; replace hx126_5 := hC_ HB hx126_5; replace p126 := eq_true p126; replace q126 := eq_true q126
              go_wp2_with (first | (go_at_call 112; (with_reducible refine (block_May_1.calls k1 ((J24 l0 x8_1).f0) ((J24 l0 x8_1).f1) ((J24 l0 x8_1).f2) ((J24 l0 x8_1).f3) ((J24 l0 x8_1).f4) ((J24 l0 x8_1).f5) false _ A6.out).mono ?_); rintro e w9 ⟨rfl, hb⟩; replace HB := aM_ (bT_ (bl_ HB) hb)))
              go_roundg k1
              case measure => have := HK1.out; omega
              case rel => exact ⟨(wrap64 (x8_1 + 1)), eQ_, H, ⟨by have := HK1.out; omega⟩, ⟨bl_ HB⟩⟩
          · rw [if_neg c5] at H; exact absurd H (by simp)
        · rw [if_neg c4] at H; exact absurd H (by simp)
      · rw [if_neg c3] at H; have c3b0 := dF_ c3; clear c3; obtain rfl := oI_ H; go_wp2; go_ret; exact ⟨eR_, bl_ HB⟩
theorem aI112_88112.calls (k : Nat) (A0 : Option Addr) (c0 : Nat) (l0 : List (S24))  (r : Bool) (w : World) (hr0 : Kd.C k24 w A0 l0.length l0) (hc0 : l0.length ≤ c0) (h : aI89_88089.f k l0 = some r) :
    Calls Try.prog 88 #[.slice A0 l0.length c0, .func (.func 112) #[] #[]] w fun e w' => e = .returned (.bool r) ∧ Below w.heap.size w w' := by
  have HR0 := aM_ hr0; have HC0 := aM_ hc0; clear hr0 hc0; have HB := aM_ (Below.refl w.heap.size w); have H : ((aI89_114089.f k l0).bind fun t128 => (some (decide (t128 ≥ 0)))) = some r := h; clear h; obtain ⟨t128, A3, H⟩ := oB_ H; obtain rfl := oI_ H; go_enter Try.func88, Try.ntmps88
  go_wp2_with (first | ((with_reducible refine gC_ (f := 114) rfl ?_); refine gL_ (some 7) Try.func114 #[.slice A0 l0.length c0, .func (.func 112) #[] #[]] rfl ?_; (with_reducible refine (aI112_114112.calls k _ _ l0  t128 _ ?side1 ?side2 A3.out).mono ?_); (case side1 => exact rC_ HR0.out); (case side2 => exact HC0.out); rintro e w4 ⟨rfl, hb⟩; refine ⟨_, rfl, ?_⟩; replace HB := aM_ (bT_ (bl_ HB) hb)))
  go_ret; exact ⟨eR_, bl_ HB⟩
end Go.Proofs.Ytibfkkjkahpobaa.PDag
end
section
namespace Go.Proofs.Ytibfkkjkahpobaa.PDag
attribute [local go_sem] Oper.semAt_some
attribute [local go_sem high] eqA24
def zeroI (x : S24) : Bool := x.f0 == 0 && (x.f1 == 0 && (x.f2 == 0 && (x.f3 == 0 && (x.f4 == 0 && x.f5.toList.isEmpty))))
def mayBlk (l : List S24) (x : S24) : Bool := allPlain l && (if zeroI x = true then decide (l.length ≤ 200) else okI x && (endsOp x.f0 && decide (l.length + 1 ≤ 200)))
theorem contains_eq (l : List S24) (hl : l.length ≤ 1000000000) : aI89_88089.f (62 + l.length) l = some (!allPlain l) := by
  unfold aI89_88089.f aI89_114089.f; obtain ⟨r, h1, h2⟩ := idx_loop l hl l.length (62 + l.length) 0 (by omega) (by omega); rw [show ((0 : Nat) : Int) = 0 from rfl] at h1; rw [h1]; simp only [Option.bind_some, h2, List.drop_zero]; rfl
def totB (l : List S24) (x : S24) : Int := if zeroI x = true then l.length else l.length + 1
end Go.Proofs.Ytibfkkjkahpobaa.PDag
end
section
namespace Go.Proofs.Ytibfkkjkahpobaa.PDag
open Go.Maps (setOf)
open Go.WideMaps (keyOf_string_mk)
attribute [local go_sem] Oper.semAt_some
attribute [local go_sem high] eqA24
def lit (s : ByteArray) : Lit := .string s.data.toList
def keysOf (ls : List ByteArray) : List Lit := ls.map lit
def yes : DataW Unit := .lit (.bool true)
def no : DataW Unit := .lit (.bool false)
theorem u127 : Try.prog.underlying 127 = some (.map 9 4) := by kernel_rfl
theorem K9 : Go.Maps.Keyed Try.prog 9 := Go.Maps.string_keyed Try.underlying9
theorem key_lit (l : Lit) (h : ∃ s, l = lit s) : WideAt.IsKeyLit l := by
  obtain ⟨s, rfl⟩ := h; simp [WideAt.IsKeyLit, lit]
theorem keys_lit (ls : List ByteArray) : ∀ x ∈ keysOf ls, WideAt.IsKeyLit x := fun x hx => by
  obtain ⟨s, _, rfl⟩ := List.mem_map.1 hx; exact key_lit _ ⟨s, rfl⟩
def among (ls : List ByteArray) (s : ByteArray) : Bool := ls.any (fun t => t.data.toList == s.data.toList)
theorem has_among (ls : List ByteArray) (s : ByteArray) : Maps.has (setOf yes (keysOf ls)) (lit s) = among ls s := by
  rw [Go.Maps.has_setOf _ _ _ (keys_lit ls)]; unfold keysOf among; rw [List.any_map]; congr 1
theorem at_fold (s : ByteArray) : ∀ (ls : List ByteArray) (m : DataW Unit), Maps.IsMap m → ((keysOf ls).foldl (fun m x => m.put x yes) m).atKey (lit s) no = if among ls s = true then yes else m.atKey (lit s) no
  | [], m, _ => by simp [keysOf, among]
  | t :: r, m, hm => by
    have h1 := at_fold s r (m.put (lit t) yes) (hm.put _ _); show ((keysOf r).foldl (fun m x => m.put x yes) (m.put (lit t) yes)).atKey (lit s) no = _; rw [h1]; unfold among; rw [List.any_cons]
    by_cases ht : t.data.toList = s.data.toList
    · have e : lit t = lit s := by unfold lit; rw [ht]
      rw [e, Maps.atKey_put_same hm (key_lit _ ⟨s, rfl⟩), beq_iff_eq.mpr ht]; simp
    · have e : lit s ≠ lit t := fun h => ht (by unfold lit at h; injection h with h; exact h.symm); rw [Maps.atKey_put_other e, beq_eq_false_iff_ne.mpr ht, Bool.false_or]
theorem at_among (ls : List ByteArray) (s : ByteArray) : (setOf yes (keysOf ls)).atKey (lit s) no = .lit (.bool (among ls s)) := by
  unfold setOf; rw [at_fold s ls _ Maps.isMap_empty]
  cases among ls s <;> rfl
def LM (w : World) (b : Nat) (ls : List ByteArray) : Prop := w.ownsMap Try.prog 9 (plainElem (H := Unit) Try.prog 4) b ls.length (setOf yes (keysOf ls))
theorem lm_new (w : World) : LM (w.alloc (.map #[] 0)) w.heap.size [] := World.ownsMap_made w _ _ _
theorem lm_below {w w1 : World} {b n : Nat} {ls : List ByteArray} (h : LM w b ls) (hb : Below n w w1) (hn : b < n) : LM w1 b ls := by
  obtain ⟨es, c, h1, h2⟩ := h; exact ⟨es, c, (hb.block b hn).trans h1, h2⟩
theorem lm_lt {w : World} {b : Nat} {ls : List ByteArray} (h : LM w b ls) : b < w.heap.size := h.lt
def bof : DataW Unit → Bool
  | .lit (.bool b) => b
  | _ => false
theorem bool_inv {P : Program} {e : TypeId} (he : P.underlying e = some .bool) {v : Value} {z : DataW Unit × List MemPlace} (h : plainElem P e v = some z) : ∃ x, v = .bool x ∧ z = (.lit (.bool x), []) := by
  unfold plainElem at h; split at h
  · injection h with h
    exact ⟨_, rfl, h.symm⟩
  · rename_i h1
    rw [he] at h1; injection h1 with h1
    injection h1
  · rename_i h1
    rw [he] at h1; injection h1 with h1
    injection h1
  · injection h
theorem lm_look {w : World} {b : Nat} {ls : List ByteArray} (h : LM w b ls) (s : ByteArray) (hs : s.size ≤ maxLen) : (Instr.lookup 127 (.map (some b)) (.string s) false).run Try.prog w = .ok (.bool (among ls s)) w := by
  obtain ⟨v, ps, hrun, hv⟩ := World.ownsMap.lookup (t := 127) (e := 4) h K9 u127 (z := .bool false) (by kernel_rfl) (plainElem_bool Try.underlying4 false) (keyOf_string_mk Try.underlying9 hs); rw [hrun]; have h2 : (setOf yes (keysOf ls)).atKey (lit s) no = .lit (.bool (among ls s)) := at_among ls s; have h3 : plainElem (H := Unit) Try.prog 4 v = some (.lit (.bool (among ls s)), ps) := by rw [hv]; exact congrArg (fun z => some (z, ps)) h2
  obtain ⟨x, rfl, hx⟩ := bool_inv Try.underlying4 h3; have hb : among ls s = x := congrArg (fun z : DataW Unit × List MemPlace => bof z.1) hx; rw [hb]
theorem lm_put {w : World} {b : Nat} {ls : List ByteArray} (h : LM w b ls) (s : ByteArray) (hs : s.size ≤ maxLen) (hn : ls.length < maxLen) : ∃ w', (Instr.mapUpdate 127 (.map (some b)) (.string s) (.bool true)).run Try.prog w = .ok () w' ∧ LM w' b (ls ++ [s]) ∧ w.grownBy w' (some b) := by
  obtain ⟨w', h1, h2, h3⟩ := World.ownsMap.update (t := 127) (e := 4) h K9 u127 hn (key := .string s) (val := .bool true) (keyOf_string_mk Try.underlying9 hs) (plainElem_bool Try.underlying4 true); refine ⟨w', h1, ?_, h3⟩; unfold LM; have e : setOf yes (keysOf (ls ++ [s])) = (setOf yes (keysOf ls)).put (lit s) yes := by unfold keysOf; rw [List.map_append]; exact Maps.setOf_snoc _ _ _
  rw [e, List.length_append]; exact h2
def labelsOk : List ByteArray → Nat → Bool
  | _, 0 => true
  | ls, j + 1 => labelsOk ls j && (nameOk (ls.getD j ByteArray.empty) && !among (ls.take j) (ls.getD j ByteArray.empty))
theorem take_snoc (ls : List ByteArray) (j : Nat) (hj : j < ls.length) : ls.take j ++ [ls.getD j ByteArray.empty] = ls.take (j + 1) := by
  rw [List.take_add_one, List.getD_eq_getElem?_getD, List.getElem?_eq_getElem hj]; rfl
theorem size_ok (ls : List ByteArray) : ∀ j, j ≤ ls.length → labelsOk ls j = true → Maps.size (setOf yes (keysOf (ls.take j))) = j
  | 0, _, _ => by simp [keysOf, setOf]; rfl
  | j + 1, hj, h => by
    unfold labelsOk at h; rw [Bool.and_eq_true, Bool.and_eq_true] at h; have ih := size_ok ls j (by omega) h.1; have ha : among (ls.take j) (ls.getD j ByteArray.empty) = false := by simpa using h.2.2
    rw [← take_snoc ls j (by omega)]; have e : setOf yes (keysOf (ls.take j ++ [ls.getD j ByteArray.empty])) = (setOf yes (keysOf (ls.take j))).put (lit (ls.getD j ByteArray.empty)) yes := by unfold keysOf; rw [List.map_append]; exact Maps.setOf_snoc _ _ _
    rw [e, Maps.size_put (Maps.tidy_setOf _ _ (keys_lit _)), has_among, ha, ih]; rfl
theorem lm_len {w : World} {b : Nat} {ls : List ByteArray} (h : LM w b ls) (hn : labelsOk ls ls.length = true) (ty : TypeId) : (Builtin.len_ #[127] ty #[.map (some b)]).run Try.prog w = .ok (.int .i64 ls.length) w := by
  have h1 := World.ownsMap.len (t := 127) (e := 4) h u127 ty; have h2 := size_ok ls ls.length (Nat.le_refl _) hn; rw [List.take_length] at h2; rw [h1, h2]
theorem name_size {s : ByteArray} (h : nameOk s = true) : s.size ≤ maxLen := by
  unfold nameOk at h; rw [Bool.and_eq_true, Bool.and_eq_true] at h; have := of_decide_eq_true h.2.1; have : (12 : Nat) ≤ maxLen := by decide
  omega
theorem wp_lmput {w : World} {ops : Array Oper} {rest : List Oper} {o : Oper} {a : Act} {Q : Exit → Act → World → Prop} {b : Nat} {ls : List ByteArray} (h : LM w b ls) (s : ByteArray) (hs : s.size ≤ maxLen) (hn : ls.length < maxLen)
    (m x v : Operand) (hg : o.guard = none) (hop : o.op = Op.mapUpdate 127 m x v) (hm : a.eval m = .map (some b)) (hx : a.eval x = .string s) (hv : a.eval v = .bool true)
    (hK : ∀ w', LM w' b (ls ++ [s]) → w.grownBy w' (some b) → wpList Try.prog ops Q rest (a.put o.dst undef) w') : wpList Try.prog ops Q (o :: rest) a w := by
  refine wpList_plain hg fun K' hK' => ?_; obtain ⟨w', hrun, r1, r2⟩ := lm_put h s hs hn; unfold Oper.wp; simp [execOp, hop, hm, hx, hv, hrun, Result.andThen]; exact hK' _ _ (hK w' r1 r2)
theorem labels_no {ls : List ByteArray} {j : Nat} (h : labelsOk ls j = false) : ∀ n, j ≤ n → labelsOk ls n = false
  | 0, hj => by rw [show j = 0 by omega] at h; exact h
  | n + 1, hj => by
    by_cases e : j = n + 1
    · rw [← e]; exact h
    · unfold labelsOk; rw [labels_no h n (by omega)]; rfl
def mayBlkL (lb : List ByteArray) (l : List S24) (x : S24) : Bool := labelsOk lb lb.length && (mayBlk l x && decide (lb.length ≤ 60))
theorem name_calls (s : ByteArray) (w : World) : Calls Try.prog 111 #[.string s] w fun e w' => e = .returned (.bool (nameOk s)) ∧ Dr_ w w' := isa_Name2.calls 40 s _ w (isa_name (Nat.le_refl _) s)
theorem lb_cell {w : World} {A : Option Addr} {ls : List ByteArray} (h : Kd.C Kd.string w A ls.length ls) (i : Nat) (hi : i < ls.length) : ∃ ad, A = some ad ∧ w.cell? (ad.add i) = some (.string (ls.getD i ByteArray.empty)) := by
  obtain ⟨ad, e, h1⟩ := Kd.at_string h (i : Int) (Int.natCast_nonneg _) (by omega); refine ⟨ad, e, ?_⟩; have h2 : rdOf ByteArray.empty ls (i : Int) = ls.getD i ByteArray.empty := by unfold rdOf; simp
  rw [← h2]; exact h1
theorem block_May.calls (g : Nat) (A0 : Option Addr) (c0 : Nat) (lb : List ByteArray) (Al : Option Addr) (cl cp : Nat) (l : List S24) (x : S24) (w : World) (hg : w.heap[g]? = some (.cells #[.slice A0 lb.length c0, .slice Al l.length cl, .int .i64 x.f0, .int .i64 x.f1, .int .i64 x.f2, .int .i64 x.f3, .int .i64 x.f4, .string x.f5] 73 (0, 0)))
    (hb : Kd.C Kd.string w A0 lb.length lb) (hcb : lb.length ≤ c0) (hmb : lb.length ≤ 1000000000) (hl : Kd.C k24 w Al l.length l) (hcl : l.length ≤ cl) (hmx : l.length ≤ 1000000000) :
    Calls Try.prog 83 #[.slice (some ⟨g, 0, none⟩) 1 cp] w fun e w' => e = .returned (.bool (mayBlkL lb l x)) ∧ Below w.heap.size w w' := by
  have hu73 := Try.underlying73; have hu24 := Try.underlying24; have hmm := @run_makeMap_plain Try.prog; have HG := aM_ hg; have HL := aM_ hl; have HN := aM_ hb; clear hg hl hb; go_enter Try.func83, Try.ntmps83; go_wp2; have HM := aM_ (lm_new w); have HB := aM_ (bA_ (Below.refl w.heap.size w) (.map #[] 0)); generalize hmp : w.heap.size = mp at HM HB ⊢; generalize w.alloc (.map #[] 0) = wM at HM HB ⊢
  go_loopw [4, 12] (fun v i wr => ∃ j : Nat, j ≤ 1 ∧ i = .int .i64 j ∧ v = .int .i64 (if j = 0 then 0 else totB l x) ∧ As_ (j = 1 → labelsOk lb lb.length = true ∧ mayBlk l x = decide (totB l x ≤ 200)) ∧ As_ (LM wr mp (if j = 0 then [] else lb)) ∧ As_ (Below mp w wr)) (fun _ i _ => 1 - (intOf i).toNat)
  case atStart => exact ⟨0, by omega, rfl, rfl, ⟨fun h => by cases h⟩, ⟨HM.out⟩, ⟨HB.out⟩⟩
  case round =>
    clear HM HB; obtain ⟨j, hj, rfl, rfl, HJ, HM, HB⟩ := hrel
    by_cases hlt : j = 0
    · subst hlt; have HG1 := aM_ ((HB.out.block g (by rw [← hmp]; exact blk_lt HG.out)).trans HG.out); have hx0 : wr.cell? ⟨g, 0, none⟩ = some (.slice A0 lb.length c0) := (bC_ HG1.out 0).trans rfl; have hx1 : wr.cell? ⟨g, 1, none⟩ = some (.slice Al l.length cl) := (bC_ HG1.out 1).trans rfl; have hx2 : wr.cell? ⟨g, 2, none⟩ = some (.int .i64 x.f0) := (bC_ HG1.out 2).trans rfl; have hx3 : wr.cell? ⟨g, 3, none⟩ = some (.int .i64 x.f1) := (bC_ HG1.out 3).trans rfl; have hx4 : wr.cell? ⟨g, 4, none⟩ = some (.int .i64 x.f2) := (bC_ HG1.out 4).trans rfl; have hx5 : wr.cell? ⟨g, 5, none⟩ = some (.int .i64 x.f3) := (bC_ HG1.out 5).trans rfl; have hx6 : wr.cell? ⟨g, 6, none⟩ = some (.int .i64 x.f4) := (bC_ HG1.out 6).trans rfl; have hx7 : wr.cell? ⟨g, 7, none⟩ = some (.string x.f5) := (bC_ HG1.out 7).trans rfl; go_wp2; have HX := aM_ (blk_new wr (.cells #[.slice A0 lb.length c0, .slice Al l.length cl, .int .i64 x.f0, .int .i64 x.f1, .int .i64 x.f2, .int .i64 x.f3, .int .i64 x.f4, .string x.f5] 73 (0, 0))); have hb1 := bA_ (Below.refl wr.heap.size wr) (.cells #[.slice A0 lb.length c0, .slice Al l.length cl, .int .i64 x.f0, .int .i64 x.f1, .int .i64 x.f2, .int .i64 x.f3, .int .i64 x.f4, .string x.f5] 73 (0, 0)); have hmle : mp ≤ wr.heap.size := by rw [← hmp]; exact HB.out.size
      have HM1 := aM_ (lm_below HM.out hb1 (lm_lt HM.out)); have HB1 := aM_ (HB.out.trans (hb1.mono hmle)); have hmlt : mp < wr.heap.size := lm_lt HM.out; clear hb1 HM HB HG1 hx0 hx1 hx2 hx3 hx4 hx5 hx6 hx7; generalize wr.heap.size = gx at HX hmle hmlt ⊢; generalize wr.alloc (.cells #[.slice A0 lb.length c0, .slice Al l.length cl, .int .i64 x.f0, .int .i64 x.f1, .int .i64 x.f2, .int .i64 x.f3, .int .i64 x.f4, .string x.f5] 73 (0, 0)) = W1 at HX HM1 HB1 ⊢; have x00 : W1.cell? ⟨gx, 0, none⟩ = some (.slice A0 lb.length c0) := (bC_ HX.out 0).trans rfl; go_wp2; clear x00
      go_loopw [19] (fun v wi => ∃ i : Nat, i ≤ lb.length ∧ v = .int .i64 i ∧ As_ (labelsOk lb i = true) ∧ As_ (LM wi mp (lb.take i)) ∧ As_ (wi.heap[gx]? = some (.cells #[.slice A0 lb.length c0, .slice Al l.length cl, .int .i64 x.f0, .int .i64 x.f1, .int .i64 x.f2, .int .i64 x.f3, .int .i64 x.f4, .string x.f5] 73 (0, 0))) ∧ As_ (Below mp w wi)) (fun v _ => lb.length - (intOf v).toNat)
      case atStart => exact ⟨0, Nat.zero_le _, rfl, ⟨rfl⟩, ⟨HM1.out⟩, ⟨HX.out⟩, ⟨HB1.out⟩⟩
      case round =>
        clear HM1 HX HB1; obtain ⟨i, hi, rfl, HO, HM1, HX, HB1⟩ := hrel
        rename World => W2
        by_cases hil : i < lb.length
        · have q1 : ((i : Int) < (lb.length : Int)) = True := eq_true (by omega); have p1 : ((0 : Int) ≤ (i : Int)) = True := eq_true (Int.natCast_nonneg _); obtain ⟨adb, eb, xb⟩ := lb_cell (Kd.C_below HN.out (by rw [hmp]; exact HB1.out)) i hil; subst eb; have hw2 : wrap64 ((i : Int) + 1) = ((i + 1 : Nat) : Int) := by unfold wrap64; omega
          have HT := aM_ (take_snoc lb i hil); have HLO : As_ (labelsOk lb (i + 1) = (labelsOk lb i && (nameOk (lb.getD i ByteArray.empty) && !among (lb.take i) (lb.getD i ByteArray.empty)))) := ⟨rfl⟩
          have hlen : (lb.take i).length < maxLen := by rw [List.length_take]; simp only [maxLen]; omega
          have HIL := aM_ hil; clear hil; generalize lb.getD i ByteArray.empty = s at HT HLO xb; have HC := aM_ (name_calls s W2)
          cases hn : nameOk s with
          | false =>
            rw [hn] at HC
            go_wp2_with (go_at_call 111; refine HC.out.mono ?_; rintro e w' ⟨rfl, ⟨nd, rfl⟩⟩)
            go_ret
            exact ⟨by unfold mayBlkL; rw [labels_no (by rw [HLO.out, hn]; simp) lb.length HIL.out]; rfl, by rw [hmp]; exact bN_ HB1.out nd⟩
          | true =>
            rw [hn] at HC; have HS := aM_ (name_size hn)
            cases ha : among (lb.take i) s with
            | true =>
              go_wp2_with (go_at_call 111; refine HC.out.mono ?_; rintro e w' ⟨rfl, ⟨nd, rfl⟩⟩; have hlk := lm_look (w := W2.drewN nd) HM1.out s HS.out; rw [ha] at hlk)
              go_ret
              exact ⟨by unfold mayBlkL; rw [labels_no (by rw [HLO.out, ha]; simp) lb.length HIL.out]; rfl, by rw [hmp]; exact bN_ HB1.out nd⟩
            | false =>
              go_wp2_with (first | (go_at_call 111; refine HC.out.mono ?_; rintro e w' ⟨rfl, ⟨nd, rfl⟩⟩; have HM2 := aM_ (show LM (W2.drewN nd) mp (lb.take i) from HM1.out); have HX2 := aM_ (kB_ HX.out (bN_ (Below.refl _ W2) nd)); have HB2 := aM_ (bN_ HB1.out nd); have hlk := lm_look HM2.out s HS.out; rw [ha] at hlk) | (at_mapUpdate; refine wp_lmput HM2.out s HS.out hlen _ _ _ rfl rfl rfl rfl rfl ?_; intro w4 HM4 HG4; rw [HT.out] at HM4; have HM5 := aM_ HM4; have HX5 := aM_ (blk_grown HX2.out HG4 (by intro h_; injection h_ with h_; omega)); have HB5 := aM_ (pw_below_grown HB2.out _ (Nat.le_trans hmle (Nat.le_of_lt (blk_lt HX2.out))) HG4 (by intro k_ h_; injection h_ with h_; omega)); clear HM4 HG4))
              refine ⟨⟨i + 1, HIL.out, by first | rfl | rw [hw2], ⟨by rw [HLO.out, HO.out, hn, ha]; rfl⟩, ⟨HM5.out⟩, ⟨HX5.out⟩, ⟨HB5.out⟩⟩, ?_⟩; have := HIL.out
              try rw [hw2]
              show lb.length - (((i + 1 : Nat) : Int)).toNat < lb.length - ((i : Int)).toNat; rw [Int.toNat_natCast, Int.toNat_natCast]; omega
        · obtain rfl : i = lb.length := by omega
          have q1 : ((lb.length : Int) < (lb.length : Int)) = False := eq_false (by omega); rw [List.take_length] at HM1; have hmlt2 : mp < W2.heap.size := lm_lt HM1.out; have x1 : W2.cell? ⟨gx, 1, none⟩ = some (.slice Al l.length cl) := (bC_ HX.out 1).trans rfl; have HC := aM_ (aI112_88112.calls (62 + l.length) Al cl l _ W2 (Kd.C_below HL.out (by rw [hmp]; exact HB1.out)) hcl (contains_eq l hmx))
          cases hp : allPlain l with
          | false =>
            rw [hp] at HC
            go_wp2_with (go_at_call 88; refine HC.out.mono ?_; rintro e w' ⟨rfl, hb⟩; have HB2 := aM_ hb; clear hb)
            go_ret
            exact ⟨by simp [mayBlkL, mayBlk, hp], by rw [hmp]; exact HB1.out.trans (HB2.out.mono (Nat.le_trans hmle (Nat.le_of_lt (blk_lt HX.out))))⟩
          | true =>
            rw [hp] at HC; have HP := aM_ hp; clear hp; have hwl : wrap64 (0 + (l.length : Int)) = (l.length : Int) := by unfold wrap64; omega
            cases hz : zeroI x with
            | true =>
              have z1 : (x.f0 == 0 && (x.f1 == 0 && (x.f2 == 0 && (x.f3 == 0 && (x.f4 == 0 && x.f5.toList.isEmpty))))) = true := hz
              go_wp2_with (go_at_call 88; refine HC.out.mono ?_; rintro e w' ⟨rfl, hb⟩; have HX2 := aM_ (kB_ HX.out hb); have HM2 := aM_ (lm_below HM1.out hb hmlt2); have HB2 := aM_ (HB1.out.trans (hb.mono (Nat.le_trans hmle (Nat.le_of_lt (blk_lt HX.out))))); clear hb x1; have y1 : w'.cell? ⟨gx, 1, none⟩ = some (.slice Al l.length cl) := (bC_ HX2.out 1).trans rfl; have y2 : w'.cell? ⟨gx, 2, none⟩ = some (.int .i64 x.f0) := (bC_ HX2.out 2).trans rfl; have y3 : w'.cell? ⟨gx, 3, none⟩ = some (.int .i64 x.f1) := (bC_ HX2.out 3).trans rfl; have y4 : w'.cell? ⟨gx, 4, none⟩ = some (.int .i64 x.f2) := (bC_ HX2.out 4).trans rfl; have y5 : w'.cell? ⟨gx, 5, none⟩ = some (.int .i64 x.f3) := (bC_ HX2.out 5).trans rfl; have y6 : w'.cell? ⟨gx, 6, none⟩ = some (.int .i64 x.f4) := (bC_ HX2.out 6).trans rfl; have y7 : w'.cell? ⟨gx, 7, none⟩ = some (.string x.f5) := (bC_ HX2.out 7).trans rfl)
              refine ⟨⟨1, Nat.le_refl _, by first | rfl | (congr 1), by simp [totB, hz], ⟨fun _ => ⟨HO.out, by simp [mayBlk, totB, hz, HP.out]; omega⟩⟩, ⟨HM2.out⟩, ⟨HB2.out⟩⟩, by simp [intOf]⟩
            | false =>
              have z1 : (x.f0 == 0 && (x.f1 == 0 && (x.f2 == 0 && (x.f3 == 0 && (x.f4 == 0 && x.f5.toList.isEmpty))))) = false := hz; have hw2 : wrap64 ((l.length : Int) + 1) = (l.length : Int) + 1 := by unfold wrap64; omega
              have HI := aM_ (fun W => isa_IsIns.calls 50 x.f0 x.f1 x.f2 x.f3 x.f4 x.f5 _ W (isa_ins_eq (Nat.le_refl _) x.f0 x.f1 x.f2 x.f3 x.f4 x.f5))
              cases hI : okI x with
              | false =>
                have hI' : insOk x.f0 x.f1 x.f2 x.f3 x.f4 x.f5 = false := hI; rw [hI'] at HI; clear hI'
                go_wp2_with (first | (go_at_call 88; refine HC.out.mono ?_; rintro e w' ⟨rfl, hb⟩; have HX2 := aM_ (kB_ HX.out hb); have HM2 := aM_ (lm_below HM1.out hb hmlt2); have HB2 := aM_ (HB1.out.trans (hb.mono (Nat.le_trans hmle (Nat.le_of_lt (blk_lt HX.out))))); clear hb x1; have y1 : w'.cell? ⟨gx, 1, none⟩ = some (.slice Al l.length cl) := (bC_ HX2.out 1).trans rfl; have y2 : w'.cell? ⟨gx, 2, none⟩ = some (.int .i64 x.f0) := (bC_ HX2.out 2).trans rfl; have y3 : w'.cell? ⟨gx, 3, none⟩ = some (.int .i64 x.f1) := (bC_ HX2.out 3).trans rfl; have y4 : w'.cell? ⟨gx, 4, none⟩ = some (.int .i64 x.f2) := (bC_ HX2.out 4).trans rfl; have y5 : w'.cell? ⟨gx, 5, none⟩ = some (.int .i64 x.f3) := (bC_ HX2.out 5).trans rfl; have y6 : w'.cell? ⟨gx, 6, none⟩ = some (.int .i64 x.f4) := (bC_ HX2.out 6).trans rfl; have y7 : w'.cell? ⟨gx, 7, none⟩ = some (.string x.f5) := (bC_ HX2.out 7).trans rfl) | (go_at_call 63; refine (HI.out _).mono ?_; rintro e w3 ⟨rfl, hb⟩; have HB3 := aM_ hb; clear hb))
                go_ret
                exact ⟨by simp [mayBlkL, mayBlk, HP.out, hz, hI], by rw [hmp]; exact HB2.out.trans (HB3.out.mono (Nat.le_trans hmle (Nat.le_of_lt (blk_lt HX2.out))))⟩
              | true =>
                have hI' : insOk x.f0 x.f1 x.f2 x.f3 x.f4 x.f5 = true := hI; rw [hI'] at HI; clear hI'
                go_wp2_with (first | (go_at_call 88; refine HC.out.mono ?_; rintro e w' ⟨rfl, hb⟩; have HX2 := aM_ (kB_ HX.out hb); have HM2 := aM_ (lm_below HM1.out hb hmlt2); have HB2 := aM_ (HB1.out.trans (hb.mono (Nat.le_trans hmle (Nat.le_of_lt (blk_lt HX.out))))); clear hb x1; have y1 : w'.cell? ⟨gx, 1, none⟩ = some (.slice Al l.length cl) := (bC_ HX2.out 1).trans rfl; have y2 : w'.cell? ⟨gx, 2, none⟩ = some (.int .i64 x.f0) := (bC_ HX2.out 2).trans rfl; have y3 : w'.cell? ⟨gx, 3, none⟩ = some (.int .i64 x.f1) := (bC_ HX2.out 3).trans rfl; have y4 : w'.cell? ⟨gx, 4, none⟩ = some (.int .i64 x.f2) := (bC_ HX2.out 4).trans rfl; have y5 : w'.cell? ⟨gx, 5, none⟩ = some (.int .i64 x.f3) := (bC_ HX2.out 5).trans rfl; have y6 : w'.cell? ⟨gx, 6, none⟩ = some (.int .i64 x.f4) := (bC_ HX2.out 6).trans rfl; have y7 : w'.cell? ⟨gx, 7, none⟩ = some (.string x.f5) := (bC_ HX2.out 7).trans rfl) | (go_at_call 63; refine (HI.out _).mono ?_; rintro e w3 ⟨rfl, hb⟩; have HM3 := aM_ (lm_below HM2.out hb (lm_lt HM2.out)); have HX3 := aM_ (kB_ HX2.out hb); have y22 : w3.cell? ⟨gx, 2, none⟩ = some (.int .i64 x.f0) := (bC_ HX3.out 2).trans rfl; have HB3 := aM_ (HB2.out.trans (hb.mono (Nat.le_trans hmle (Nat.le_of_lt (blk_lt HX2.out))))); clear hb) | (go_at_call 64; refine (isa_Ends.calls x.f0 _ _ (ends_eq x.f0)).mono ?_; rintro e w4 ⟨rfl, ⟨nd, rfl⟩⟩; have HB4 := aM_ (bN_ HB3.out nd); cases hE : endsOp x.f0))
                · go_ret; exact ⟨by simp [mayBlkL, mayBlk, HP.out, hz, hI, hE], by rw [hmp]; exact HB4.out⟩
                · refine ⟨⟨1, Nat.le_refl _, by first | rfl | (congr 1), by simp [totB, hz], ⟨fun _ => ⟨HO.out, by simp [mayBlk, totB, hz, HP.out, hI, hE]; omega⟩⟩, ⟨HM3.out⟩, ⟨HB4.out⟩⟩, by simp [intOf]⟩
    · obtain rfl : j = 1 := by omega
      have hLO := aM_ (HJ.out rfl).1; have hJ := (HJ.out rfl).2; have hm0 : LM wr mp lb := HM.out; rw [if_neg (by decide)]; have ht0 : 0 ≤ totB l x := by unfold totB; split <;> omega
      have q1 : (((1 : Nat) : Int) < 1) = False := eq_false (by omega)
      by_cases hT : totB l x ≤ 200
      · have c1 : (totB l x ≤ 200) = True := eq_true hT; have c2 : decide (totB l x ≤ 200) = true := decide_eq_true hT; clear hT; rw [c2] at hJ; have HJ2 := aM_ hJ; clear hJ HJ; have hlm : ∀ ty, (Builtin.len_ #[127] ty #[.map (some mp)]).run Try.prog wr = .ok (.int .i64 (lb.length : Nat)) wr := fun ty => lm_len hm0 hLO.out ty
        by_cases h60 : lb.length ≤ 60
        · have c3 : ((lb.length : Int) ≤ 60) = True := eq_true (by omega); have H60 := aM_ (decide_eq_true h60); clear h60; go_wp2; go_ret; exact ⟨by unfold mayBlkL; rw [hLO.out, HJ2.out, H60.out]; rfl, by rw [hmp]; exact HB.out⟩
        · have c3 : ((lb.length : Int) ≤ 60) = False := eq_false (by omega); have H60 := aM_ (decide_eq_false h60); clear h60; go_wp2; go_ret; exact ⟨by unfold mayBlkL; rw [H60.out]; simp, by rw [hmp]; exact HB.out⟩
      · have c1 : (totB l x ≤ 200) = False := eq_false hT; have c2 : decide (totB l x ≤ 200) = false := decide_eq_false hT; clear hT; rw [c2] at hJ; have HJ2 := aM_ hJ; clear hJ HJ; go_wp2; go_ret; exact ⟨by unfold mayBlkL; rw [HJ2.out]; simp, by rw [hmp]; exact HB.out⟩
end Go.Proofs.Ytibfkkjkahpobaa.PDag
end
section
namespace Go.Proofs.Ytibfkkjkahpobaa.PDag
attribute [local go_sem] Oper.semAt_some
def sched_Of.f (k : Nat) (lb : List ByteArray) (l : List S24) (a2 a3 a4 a5 a6 : Int) (a7 : ByteArray) : Option (List S81 × Int) :=
  if lb.length ≤ 1000000000 ∧ l.length ≤ 1000000000 then some (if mayBlkL lb l ⟨a2, a3, a4, a5, a6, a7⟩ = true then (bunF l ⟨a2, a3, a4, a5, a6, a7⟩, 0) else ([], 1)) else none
theorem mayBlkL_some {lb : List ByteArray} {l : List S24} {x : S24} (h : mayBlkL lb l x = true) : mayBlk l x = true := by
  unfold mayBlkL at h; simp only [Bool.and_eq_true] at h; exact h.2.1
theorem mayBlk_parts {l : List S24} {x : S24} (h : mayBlk l x = true) : okA l ∧ l.length ≤ 200 ∧ 0 ≤ x.f0 ∧ x.f0 ≤ 33 := by
  unfold mayBlk at h; rw [Bool.and_eq_true] at h; have ho : okA l := fun y hy => plain_ok (List.all_eq_true.1 h.1 y hy); refine ⟨ho, ?_⟩; split at h
  · rename_i hz
    have h2 := of_decide_eq_true h.2; unfold zeroI at hz; simp only [Bool.and_eq_true, beq_iff_eq] at hz; exact ⟨h2, by omega⟩
  · have h2 := h.2; simp only [Bool.and_eq_true, decide_eq_true_eq] at h2; have h3 := okI_op h2.1; exact ⟨by omega, h3⟩
theorem sched_Of.calls (k : Nat) (A0_0 : Option Addr) (c0_0 : Nat) (l0_0 : List ByteArray) (A0_1 : Option Addr) (c0_1 : Nat) (l0_1 : List S24) (a0_2 a0_3 a0_4 a0_5 a0_6 : Int) (a0_7 : ByteArray) (r1 : List S81) (r2 : Int) (w : World)
    (hr0_0 : Kd.C Kd.string w A0_0 l0_0.length l0_0) (hc0_0 : l0_0.length ≤ c0_0) (hr0_1 : Kd.C k24 w A0_1 l0_1.length l0_1) (hc0_1 : l0_1.length ≤ c0_1) (h : sched_Of.f k l0_0 l0_1 a0_2 a0_3 a0_4 a0_5 a0_6 a0_7 = some (r1, r2)) :
    Calls Try.prog 51 #[.agg #[.slice A0_0 l0_0.length c0_0, .slice A0_1 l0_1.length c0_1, .int .i64 a0_2, .int .i64 a0_3, .int .i64 a0_4, .int .i64 a0_5, .int .i64 a0_6, .string a0_7]] w fun e w' => ∃ v0_ : Value, e = .returned (.tuple #[v0_, .int .i64 r2]) ∧ Kd.R k81 81 w' w.heap.size (fun _ => True) v0_ r1 ∧ Below w.heap.size w w' := by
  have hu73 := Try.underlying73; have hu24 := Try.underlying24; unfold sched_Of.f at h; split at h
  · rename_i hg
    obtain ⟨hlb, hlen⟩ := hg; have h := Option.some.inj h; have HL := aM_ hr0_1; have HN := aM_ hr0_0; generalize hx : (⟨a0_2, a0_3, a0_4, a0_5, a0_6, a0_7⟩ : S24) = x at h; have e2 : a0_2 = x.f0 := by rw [← hx]
    have e3 : a0_3 = x.f1 := by rw [← hx]
    have e4 : a0_4 = x.f2 := by rw [← hx]
    have e5 : a0_5 = x.f3 := by rw [← hx]
    have e6 : a0_6 = x.f4 := by rw [← hx]
    have e7 : a0_7 = x.f5 := by rw [← hx]
    clear hx; subst e2 e3 e4 e5 e6 e7; have HM := aM_ (fun W gx hg hN hC => block_May.calls gx A0_0 c0_0 l0_0 A0_1 c0_1 1 l0_1 x W hg hN hc0_0 hlb hC hc0_1 hlen); clear hr0_0 hr0_1
    cases hm : mayBlkL l0_0 l0_1 x with
    | false =>
      rw [hm] at h HM; simp only [Bool.false_eq_true, if_false, Prod.mk.injEq] at h; obtain ⟨rfl, rfl⟩ := h; clear hm; go_enter Try.func51, Try.ntmps51
      go_wp2_with (first | ((with_reducible refine gate_dst (N := 1) rfl ?_); refine bX_ (N := 1) (cs := #[.slice A0_0 l0_0.length c0_0, .slice A0_1 l0_1.length c0_1, .int .i64 x.f0, .int .i64 x.f1, .int .i64 x.f2, .int .i64 x.f3, .int .i64 x.f4, .string x.f5]) (t := 73) ?_; intro gb hgb w1 hbox hb; have x0 : w1.cell? ⟨gb, 0, none⟩ = some (.slice A0_0 l0_0.length c0_0) := (bC_ hbox 0).trans rfl; have x1 : w1.cell? ⟨gb, 1, none⟩ = some (.slice A0_1 l0_1.length c0_1) := (bC_ hbox 1).trans rfl; have x2 : w1.cell? ⟨gb, 2, none⟩ = some (.int .i64 x.f0) := (bC_ hbox 2).trans rfl; have x3 : w1.cell? ⟨gb, 3, none⟩ = some (.int .i64 x.f1) := (bC_ hbox 3).trans rfl; have x4 : w1.cell? ⟨gb, 4, none⟩ = some (.int .i64 x.f2) := (bC_ hbox 4).trans rfl; have x5 : w1.cell? ⟨gb, 5, none⟩ = some (.int .i64 x.f3) := (bC_ hbox 5).trans rfl; have x6 : w1.cell? ⟨gb, 6, none⟩ = some (.int .i64 x.f4) := (bC_ hbox 6).trans rfl; have x7 : w1.cell? ⟨gb, 7, none⟩ = some (.string x.f5) := (bC_ hbox 7).trans rfl; have BX := aM_ hbox; have HB := aM_ hb; have HAL := aM_ (bA_ (Below.refl w1.heap.size w1) (.cells #[.slice A0_0 l0_0.length c0_0, .slice A0_1 l0_1.length c0_1, .int .i64 x.f0, .int .i64 x.f1, .int .i64 x.f2, .int .i64 x.f3, .int .i64 x.f4, .string x.f5] 73)); have HNB := aM_ (blk_new w1 (.cells #[.slice A0_0 l0_0.length c0_0, .slice A0_1 l0_1.length c0_1, .int .i64 x.f0, .int .i64 x.f1, .int .i64 x.f2, .int .i64 x.f3, .int .i64 x.f4, .string x.f5] 73)); have HB15 := aM_ (hb.trans (HAL.out.mono hb.size)); clear hbox hb hgb) | (go_at_call 83; refine (HM.out _ w1.heap.size HNB.out (Kd.C_below HN.out HB15.out) (Kd.C_below HL.out HB15.out)).mono ?_; rintro e w3 ⟨rfl, hb⟩; have HB2 := aM_ (HB15.out.trans (hb.mono HB15.out.size)); have BX2 := aM_ (kB_ (kB_ BX.out HAL.out) hb); clear hb x0 x1 x2 x3 x4 x5 x6 x7))
      go_ret2
      exact ⟨_, rfl, Kd.R_nil _ _ _ _ _, HB2.out⟩
    | true =>
      rw [hm] at h HM; simp only [if_true, Prod.mk.injEq] at h; obtain ⟨rfl, rfl⟩ := h; obtain ⟨ho, hn, hx0⟩ := mayBlk_parts (mayBlkL_some hm); have HO := aM_ ho; clear hm ho; go_enter Try.func51, Try.ntmps51
      go_wp2_with (first | ((with_reducible refine gate_dst (N := 1) rfl ?_); refine bX_ (N := 1) (cs := #[.slice A0_0 l0_0.length c0_0, .slice A0_1 l0_1.length c0_1, .int .i64 x.f0, .int .i64 x.f1, .int .i64 x.f2, .int .i64 x.f3, .int .i64 x.f4, .string x.f5]) (t := 73) ?_; intro gb hgb w1 hbox hb; have x0 : w1.cell? ⟨gb, 0, none⟩ = some (.slice A0_0 l0_0.length c0_0) := (bC_ hbox 0).trans rfl; have x1 : w1.cell? ⟨gb, 1, none⟩ = some (.slice A0_1 l0_1.length c0_1) := (bC_ hbox 1).trans rfl; have x2 : w1.cell? ⟨gb, 2, none⟩ = some (.int .i64 x.f0) := (bC_ hbox 2).trans rfl; have x3 : w1.cell? ⟨gb, 3, none⟩ = some (.int .i64 x.f1) := (bC_ hbox 3).trans rfl; have x4 : w1.cell? ⟨gb, 4, none⟩ = some (.int .i64 x.f2) := (bC_ hbox 4).trans rfl; have x5 : w1.cell? ⟨gb, 5, none⟩ = some (.int .i64 x.f3) := (bC_ hbox 5).trans rfl; have x6 : w1.cell? ⟨gb, 6, none⟩ = some (.int .i64 x.f4) := (bC_ hbox 6).trans rfl; have x7 : w1.cell? ⟨gb, 7, none⟩ = some (.string x.f5) := (bC_ hbox 7).trans rfl; have BX := aM_ hbox; have HB := aM_ hb; have HAL := aM_ (bA_ (Below.refl w1.heap.size w1) (.cells #[.slice A0_0 l0_0.length c0_0, .slice A0_1 l0_1.length c0_1, .int .i64 x.f0, .int .i64 x.f1, .int .i64 x.f2, .int .i64 x.f3, .int .i64 x.f4, .string x.f5] 73)); have HNB := aM_ (blk_new w1 (.cells #[.slice A0_0 l0_0.length c0_0, .slice A0_1 l0_1.length c0_1, .int .i64 x.f0, .int .i64 x.f1, .int .i64 x.f2, .int .i64 x.f3, .int .i64 x.f4, .string x.f5] 73)); have HB15 := aM_ (hb.trans (HAL.out.mono hb.size)); clear hbox hb hgb) | (go_at_call 83; refine (HM.out _ w1.heap.size HNB.out (Kd.C_below HN.out HB15.out) (Kd.C_below HL.out HB15.out)).mono ?_; rintro e w3 ⟨rfl, hb⟩; have HB2 := aM_ (HB15.out.trans (hb.mono HB15.out.size)); have BX2 := aM_ (kB_ (kB_ BX.out HAL.out) hb); clear hb x0 x1 x2 x3 x4 x5 x6 x7; have y0 : w3.cell? ⟨gb, 0, none⟩ = some (.slice A0_0 l0_0.length c0_0) := (bC_ BX2.out 0).trans rfl; have y1 : w3.cell? ⟨gb, 1, none⟩ = some (.slice A0_1 l0_1.length c0_1) := (bC_ BX2.out 1).trans rfl; have y2 : w3.cell? ⟨gb, 2, none⟩ = some (.int .i64 x.f0) := (bC_ BX2.out 2).trans rfl; have y3 : w3.cell? ⟨gb, 3, none⟩ = some (.int .i64 x.f1) := (bC_ BX2.out 3).trans rfl; have y4 : w3.cell? ⟨gb, 4, none⟩ = some (.int .i64 x.f2) := (bC_ BX2.out 4).trans rfl; have y5 : w3.cell? ⟨gb, 5, none⟩ = some (.int .i64 x.f3) := (bC_ BX2.out 5).trans rfl; have y6 : w3.cell? ⟨gb, 6, none⟩ = some (.int .i64 x.f4) := (bC_ BX2.out 6).trans rfl; have y7 : w3.cell? ⟨gb, 7, none⟩ = some (.string x.f5) := (bC_ BX2.out 7).trans rfl) | (go_at_call 84; refine (sched_Bundles.calls A0_0 l0_0.length c0_0 A0_1 c0_1 l0_1 x _ (Kd.C_below HL.out HB2.out) hc0_1 HO.out hn hx0).mono ?_; rintro e w4 ⟨v9, rfl, hR, hb⟩; have HR := aM_ hR; have HB3 := aM_ hb; clear hR hb))
      go_ret2
      exact ⟨_, rfl, Kd.R_lower HR.out HB2.out.size, HB2.out.trans (HB3.out.mono HB2.out.size)⟩
  · exact absurd h (by simp)
end Go.Proofs.Ytibfkkjkahpobaa.PDag
end
section
-- the texts that this claim needs, out of this session's and its print's (wip/shrink.py)
namespace Go.Den
open Go Go.RowKit Go.Proofs Go.Proofs.YtibfkkjkahpobaaW.PrintWords Go.Proofs.Ytibfkkjkahpobaa.PDag
def xOf (b : S73) : List S81 := if mayBlkL b.f0 b.f1 b.f2 = true then bunF b.f1 b.f2 else []
theorem o8 (b : S73) (h0 : b.f0.length ≤ 1000000000) (h1 : b.f1.length ≤ 1000000000) : CallStep Try.prog 51 [.agg (kBlk.flat (f41 b))] [] (.tup [(false, [.own 0]), (false, [.int .i64 (if mayBlkL b.f0 b.f1 b.f2 = true then 0 else 1)])]) [.row 81 kBun ((xOf b).map f62)] := by
  refine CallStep.mkOwn ⟨_, _, Try.func51, by kernel_rfl, rfl⟩ fun U ρ w vs ha => ?_; obtain ⟨v, rfl, hv⟩ := vs1 ha; obtain ⟨A0, c0, A1, c1, rfl, b1, b2, b3, b4⟩ := blkArg hv
  have hf : sched_Of.f 0 b.f0 b.f1 b.f2.f0 b.f2.f1 b.f2.f2 b.f2.f3 b.f2.f4 b.f2.f5 = some (xOf b, if mayBlkL b.f0 b.f1 b.f2 = true then 0 else 1) := by
    unfold sched_Of.f xOf; rw [if_pos ⟨h0, h1⟩]; split <;> rfl
  refine Calls.mono (sched_Of.calls 0 A0 c0 b.f0 A1 c1 b.f1 _ _ _ _ _ _ _ _ w b2 b1 b4 b3 hf) ?_; rintro e w' ⟨v0, rfl, hR, hB⟩; refine ⟨_, v0, rfl, hB, fun g hg => ?_, fun U1 ρ1 hU hρ => ⟨br62.ownRow hR (fun a h1 h2 h3 h4 => ?_) hρ, ⟨_, rfl, ?_⟩⟩⟩
  · obtain ⟨inner, ho⟩ := Kd.R_own hR; exact ⟨own_base ho g hg, own_lt ho g hg⟩
  · rcases hU a h4 with h | h
    · omega
    · exact h3 h
  · refine All2.cons ⟨_, rfl, ?_⟩ (All2.cons ⟨_, rfl, rfl⟩ All2.nil); obtain ⟨A, c, rfl⟩ := Kd.R_slice hR; exact ⟨rfl, Nat.zero_lt_one, fun k hk => hρ.symm⟩
theorem o9 (l : List S24) (h1 : l.length ≤ 1000000000) : CallStep Try.prog 47 [.one (.row 24 kIns (l.map f24))] [] (.tup [(false, [.row 3 kI (if mayL l = true then (cycF l).at_ else [])]), (false, [.row 3 kI (if mayL l = true then (cycF l).sl else [])]), (false, [.int .i64 (if mayL l = true then 0 else 1)])]) [] := by
  refine CallStep.mk1 ⟨_, _, Try.func47, by kernel_rfl, rfl⟩ fun U ρ w vs ha => ?_; obtain ⟨v, rfl, hv⟩ := vs1 ha; obtain ⟨A, c, rfl, b1, b2⟩ := br24.argRow (e := 24) (xs := l) hv
  have hf : sched_Cycles.f 0 l = some (if mayL l = true then (cycF l).at_ else [], if mayL l = true then (cycF l).sl else [], if mayL l = true then 0 else 1) := by
    unfold sched_Cycles.f; rw [if_pos h1]; split <;> rfl
  refine Calls.mono (sched_Cycles.calls 0 A c l _ _ _ w b2 b1 hf) ?_; rintro e w' ⟨v0, v1, rfl, hR0, hR1, hB⟩; refine ⟨_, rfl, hB, fun U1 hU => ⟨_, rfl, All2.cons ⟨_, rfl, ?_⟩ (All2.cons ⟨_, rfl, ?_⟩ (All2.cons ⟨_, rfl, rfl⟩ All2.nil))⟩⟩
  · exact (brInts .i64 3).made (base := w.heap.size) (ok := fun _ => True) ⟨v0, rfl, Kd.R_mono hR0 fun _ _ => trivial⟩ fun a h1 h2 _ h3 => by have := hU a h3; omega
  · exact (brInts .i64 3).made (base := w.heap.size) (ok := fun _ => True) ⟨v1, rfl, Kd.R_mono hR1 fun _ _ => trivial⟩ fun a h1 h2 _ h3 => by have := hU a h3; omega
end Go.Den
end
section
-- the texts that this claim needs, out of this session's and its print's (wip/shrink.py)
namespace Go.Den
open Go Go.RowKit Go.Proofs
theorem take_snoc {α : Type} {xs : List α} {i : Nat} {z : α} (hi : i < xs.length) : xs.take i ++ [xs.getD i z] = xs.take (i + 1) := by
  rw [List.take_add_one, List.getD_eq_getElem?_getD, List.getElem?_eq_getElem hi]; rfl
theorem o30 (xs : List (K.T .str)) (hx : xs.length ≤ 1000000000) : CallStep Try.prog 110 [.one (.row 9 .str xs)] [] (.one (.own 0)) [.row 9 .str xs] := by
  refine CallStep.intro' (n := 19) (n0 := 0) (rs := [.tmp 2]) tb_ok Try.func110 (by kernel_rfl) rfl rfl rfl rfl rfl fun cx hcx => ?_; refine W.sO tb_ok ?_; refine W.sO tb_ok ?_; refine W.seq ?_; refine W.sO tb_ok ?_; refine W.block (W.loop (fun i : Nat => ⟨[(4, .one (.int .i64 i)), (3, .one (.own 0)), (0, .one (.row 9 .str xs))], [.row 9 .str (xs.take i)], 19⟩) (fun i => xs.length - i) (fun i => i ≤ xs.length) 0 (Nat.zero_le _) (Le.to [1] hcx rfl ⟨rfl, rfl, rfl, rfl, rfl⟩) fun i hi => ?_); refine W.seq ?_; refine W.sO tb_ok ?_; refine W.if_ _ rfl (fun e => W.skip ?_) (fun e => W.exit ?_)
  case refine_2 =>
    refine W.sO tb_ok ?_; have hi2 : i = xs.length := by have := of_decide_eq_false e; omega
    subst hi2; exact W.ret ⟨trivial, [0], rfl, rfl, by show [Blk.row 9 .str (xs.take xs.length)] = _; rw [List.take_length]⟩
  have e : i < xs.length := by have := of_decide_eq_true e; omega
  have hb : rowB 16 ((xs.take i).length + 1) := by rw [List.length_take]; show _ * _ ≤ _; omega
  refine W.seq (W.block ?_); refine W.rO tb_ok ?_; refine W.rO tb_ok ?_; refine ⟨i + 1, e, Le.to [1] hcx rfl ⟨?_, rfl, rfl, ?_, rfl⟩, by omega⟩
  · show S.ren _ (S.one (.int .i64 (IntKind.i64.wrap (↑i + 1)))) = _; rw [IntWalk.i64_in _ (by omega)]; rfl
  · rw [← take_snoc (z := K.zero .str) e]; rfl
theorem o22 (xs : List (K.T kIns)) (hx : xs.length ≤ 1000000000) : CallStep Try.prog 30 [.one (.row 24 kIns xs)] [] (.one (.own 0)) [.row 24 kIns xs] := by
  refine CallStep.intro' (n := 19) (n0 := 0) (rs := [.tmp 2]) tb_ok Try.func30 (by kernel_rfl) rfl rfl rfl rfl rfl fun cx hcx => ?_; refine W.sO tb_ok ?_; refine W.sO tb_ok ?_; refine W.seq ?_; refine W.sO tb_ok ?_; refine W.block (W.loop (fun i : Nat => ⟨[(4, .one (.int .i64 i)), (3, .one (.own 0)), (0, .one (.row 24 kIns xs))], [.row 24 kIns (xs.take i)], 19⟩) (fun i => xs.length - i) (fun i => i ≤ xs.length) 0 (Nat.zero_le _) (Le.to [1] hcx rfl ⟨rfl, rfl, rfl, rfl, rfl⟩) fun i hi => ?_); refine W.seq ?_; refine W.sO tb_ok ?_; refine W.if_ _ rfl (fun e => W.skip ?_) (fun e => W.exit ?_)
  case refine_2 =>
    refine W.sO tb_ok ?_; have hi2 : i = xs.length := by have := of_decide_eq_false e; omega
    subst hi2; exact W.ret ⟨trivial, [0], rfl, rfl, by show [Blk.row 24 kIns (xs.take xs.length)] = _; rw [List.take_length]⟩
  have e : i < xs.length := by have := of_decide_eq_true e; omega
  have hb : rowB 56 ((xs.take i).length + 1) := by rw [List.length_take]; show _ * _ ≤ _; omega
  refine W.seq (W.block ?_); refine W.rO tb_ok ?_; refine W.rO tb_ok ?_; refine ⟨i + 1, e, Le.to [1] hcx rfl ⟨?_, rfl, rfl, ?_, rfl⟩, by omega⟩
  · show S.ren _ (S.one (.int .i64 (IntKind.i64.wrap (↑i + 1)))) = _; rw [IntWalk.i64_in _ (by omega)]; rfl
  · rw [← take_snoc (z := K.zero kIns) e]; rfl
theorem o7 (b : kBlk.T) (h0 : b.1.length ≤ 1000000000) (h1 : b.2.1.length ≤ 1000000000) : CallStep Try.prog 82 [.agg (kBlk.flat b)] [] (.agg (kBlk.flat b)) [] := by
  refine CallStep.intro' (n := 14) (n0 := 0) (rs := [.cell 2 73]) tb_ok Try.func82 (by kernel_rfl) rfl rfl rfl rfl rfl fun cx hcx => ?_; refine W.sO tb_ok ?_; refine W.sO tb_ok ?_; have q0_ := o30 b.1 h0; refine W.sO tb_ok ?_; have q0_ := o22 b.2.1 h1; refine W.sO tb_ok ?_; refine W.sO tb_ok ?_; refine W.ret ?_; dsimp; exact ⟨⟨trivial, trivial⟩, [], rfl, rfl, rfl⟩
theorem o29 (xs : List (K.T kBlk)) (hx : xs.length ≤ 1000000000) (hxs : ∀ b ∈ xs, b.1.length ≤ 1000000000 ∧ b.2.1.length ≤ 1000000000) : CallStep Try.prog 81 [.one (.row 73 kBlk xs)] [] (.one (.own 0)) [.row 73 kBlk xs] := by
  refine CallStep.intro' (n := 20) (n0 := 0) (rs := [.tmp 2]) tb_ok Try.func81 (by kernel_rfl) rfl rfl rfl rfl rfl fun cx hcx => ?_; refine W.sO tb_ok ?_; refine W.sO tb_ok ?_; refine W.seq ?_; refine W.sO tb_ok ?_; refine W.block (W.loop (fun i : Nat => ⟨[(4, .one (.int .i64 i)), (3, .one (.own 0)), (0, .one (.row 73 kBlk xs))], [.row 73 kBlk (xs.take i)], 20⟩) (fun i => xs.length - i) (fun i => i ≤ xs.length) 0 (Nat.zero_le _) (Le.to [1] hcx rfl ⟨rfl, rfl, rfl, rfl, rfl⟩) fun i hi => ?_); refine W.seq ?_; refine W.sO tb_ok ?_; refine W.if_ _ rfl (fun e => W.skip ?_) (fun e => W.exit ?_)
  case refine_2 =>
    refine W.sO tb_ok ?_; have hi2 : i = xs.length := by have := of_decide_eq_false e; omega
    subst hi2; exact W.ret ⟨trivial, [0], rfl, rfl, by show [Blk.row 73 kBlk (xs.take xs.length)] = _; rw [List.take_length]⟩
  have e : i < xs.length := by have := of_decide_eq_true e; omega
  have hb : rowB 104 ((xs.take i).length + 1) := by rw [List.length_take]; show _ * _ ≤ _; omega
  have he := hxs (xs.getD i (K.zero kBlk)) (by rw [List.getD_eq_getElem?_getD, List.getElem?_eq_getElem e]; exact List.getElem_mem e); refine W.seq (W.block ?_); have q0_ := o7 (xs.getD i (K.zero kBlk)) he.1 he.2; refine W.rO tb_ok ?_; refine W.rO tb_ok ?_; refine ⟨i + 1, e, Le.to [1] hcx rfl ⟨?_, rfl, rfl, ?_, rfl⟩, by omega⟩
  · show S.ren _ (S.one (.int .i64 (IntKind.i64.wrap (↑i + 1)))) = _; rw [IntWalk.i64_in _ (by omega)]; rfl
  · rw [← take_snoc (z := K.zero kBlk) e]; rfl
end Go.Den
end
section
-- the texts that this claim needs, out of this session's and its print's (wip/shrink.py)
namespace Go.Den
open Go Go.RowKit Go.Proofs Go.Proofs.YtibfkkjkahpobaaW.PrintWords Go.Proofs.Ytibfkkjkahpobaa.PDag
theorem o20 (xs : List (K.T kBun)) (hx : xs.length ≤ 1000000000) : CallStep Try.prog 52 [.one (.row 81 kBun xs)] [] (.one (.own 0)) [.row 81 kBun xs] := by
  refine CallStep.intro' (n := 19) (n0 := 0) (rs := [.tmp 2]) tb_ok Try.func52 (by kernel_rfl) rfl rfl rfl rfl rfl fun cx hcx => ?_; refine W.sO tb_ok ?_; refine W.sO tb_ok ?_; refine W.seq ?_; refine W.sO tb_ok ?_; refine W.block (W.loop (fun i : Nat => ⟨[(4, .one (.int .i64 i)), (3, .one (.own 0)), (0, .one (.row 81 kBun xs))], [.row 81 kBun (xs.take i)], 19⟩) (fun i => xs.length - i) (fun i => i ≤ xs.length) 0 (Nat.zero_le _) (Le.to [1] hcx rfl ⟨rfl, rfl, rfl, rfl, rfl⟩) fun i hi => ?_); refine W.seq ?_; refine W.sO tb_ok ?_; refine W.if_ _ rfl (fun e => W.skip ?_) (fun e => W.exit ?_)
  case refine_2 =>
    refine W.sO tb_ok ?_; have hi2 : i = xs.length := by have := of_decide_eq_false e; omega
    subst hi2; exact W.ret ⟨trivial, [0], rfl, rfl, by show [Blk.row 81 kBun (xs.take xs.length)] = _; rw [List.take_length]⟩
  have e : i < xs.length := by have := of_decide_eq_true e; omega
  have hb : rowB 224 ((xs.take i).length + 1) := by rw [List.length_take]; show _ * _ ≤ _; omega
  refine W.seq (W.block ?_); refine W.rO tb_ok ?_; refine W.rO tb_ok ?_; refine ⟨i + 1, e, Le.to [1] hcx rfl ⟨?_, rfl, rfl, ?_, rfl⟩, by omega⟩
  · show S.ren _ (S.one (.int .i64 (IntKind.i64.wrap (↑i + 1)))) = _; rw [IntWalk.i64_in _ (by omega)]; rfl
  · rw [← take_snoc (z := K.zero kBun) e]; rfl
def bunB (b : S81) : Bool := okI b.f0 && (okI b.f1 && (okI b.f2 && okI b.f3))
def wholeL (c : List S81) : Bool := decide (c.length ≤ 1024) && c.all bunB
theorem whole_at {c : List S81} {i : Nat} (h : i < c.length) (hp : bunB (J81 c i) = false) : c.all bunB = false := by
  rw [show J81 c (i : Int) = c[i] by unfold J81; rw [Int.toNat_natCast, List.getD_eq_getElem?_getD, List.getElem?_eq_getElem h]; rfl] at hp; rw [← Bool.not_eq_true, List.all_eq_true]; exact fun hx => by rw [hx _ (List.getElem_mem h)] at hp; cases hp
theorem whole_all {c : List S81} (h : ∀ i : Nat, i < c.length → bunB (J81 c i) = true) : c.all bunB = true := by
  rw [List.all_eq_true]; intro x hx; obtain ⟨i, hi, rfl⟩ := List.getElem_of_mem hx; have := h i hi; rw [show J81 c (i : Int) = c[i] by unfold J81; rw [Int.toNat_natCast, List.getD_eq_getElem?_getD, List.getElem?_eq_getElem hi]; rfl] at this; exact this
theorem atB (c : List S81) (i : Nat) (h : i < c.length) : (c.map f62).getD i (K.zero kBun) = f62 (J81 c i) := by
  rw [show J81 c (i : Int) = c[i] by unfold J81; rw [Int.toNat_natCast, List.getD_eq_getElem?_getD, List.getElem?_eq_getElem h]; rfl, List.getD_eq_getElem?_getD, List.getElem?_map, List.getElem?_eq_getElem h]; rfl
def slotB (b : S81) (k : Nat) : S24 := match k with
  | 0 => b.f0
  | 1 => b.f1
  | 2 => b.f2
  | _ => b.f3
def slotsB (b : S81) (k : Nat) : Bool := (List.range k).all fun j => okI (slotB b j)
end Go.Den
end
section
-- the texts that this claim needs, out of this session's and its print's (wip/shrink.py)
namespace Go.Den
open Go Go.RowKit Go.Proofs Go.Proofs.YtibfkkjkahpobaaW.PrintWords Go.Proofs.Ytibfkkjkahpobaa.PDag
def eqI (y x : S24) : Bool := (y.f0 == x.f0 && (y.f1 == x.f1 && (y.f2 == x.f2 && (y.f3 == x.f3 && (y.f4 == x.f4 && (y.f5.toList == x.f5.toList && true))))))
theorem eqI_eq {y x : S24} (h : eqI y x = true) : y = x := by
  unfold eqI at h; simp only [Bool.and_eq_true, beq_iff_eq, and_true] at h; obtain ⟨h0, h1, h2, h3, h4, h5⟩ := h; obtain ⟨y0, y1, y2, y3, y4, y5⟩ := y; obtain ⟨x0, x1, x2, x3, x4, x5⟩ := x; simp only at h0 h1 h2 h3 h4 h5; rw [ByteArray.toList_eq, ByteArray.toList_eq] at h5; obtain ⟨d⟩ := y5; obtain ⟨e⟩ := x5; have : d = e := Array.toList_inj.1 h5; subst h0 h1 h2 h3 h4 this; rfl
theorem eqI_self (x : S24) : eqI x x = true := by unfold eqI; simp
instance : BEq S24 := ⟨eqI⟩
instance : ReflBEq S24 := ⟨eqI_self _⟩
instance : LawfulBEq S24 := ⟨fun h => eqI_eq h⟩
def cntB (l : List S24) (i : Nat) : Nat := (l.take i).count (J24 l i)
def occ (S : List (Nat × Nat × S24)) (x : S24) : List (Nat × Nat) := S.filterMap fun t => if t.2.2 == x then some (t.1, t.2.1) else none
theorem occ_append (S T : List (Nat × Nat × S24)) (x : S24) : occ (S ++ T) x = occ S x ++ occ T x := by unfold occ; rw [List.filterMap_append]
theorem occ_one (t : Nat × Nat × S24) (x : S24) : occ [t] x = if t.2.2 == x then [(t.1, t.2.1)] else [] := by
  unfold occ; rw [List.filterMap_cons]; split <;> rename_i h
  · split at h
    · cases h
    · rename_i hx; rw [if_neg hx]; rfl
  · split at h
    · rename_i hx; rw [if_pos hx]; obtain rfl := Option.some.inj h; rfl
    · cases h
theorem take_succ24 (l : List S24) (i : Nat) (hi : i < l.length) : l.take (i + 1) = l.take i ++ [J24 l i] := by
  rw [List.take_succ_eq_append_getElem hi, rd_at l i hi]
theorem occ_count (S : List (Nat × Nat × S24)) (x : S24) : (occ S x).length = (S.map fun t => t.2.2).count x := by
  induction S with
  | nil => rfl
  | cons t S ih =>
    rw [show t :: S = [t] ++ S from rfl, occ_append, occ_one, List.length_append, ih, List.map_append, List.count_append]; congr 1
    by_cases h : t.2.2 = x
    · rw [if_pos (by simpa using h)]; simp [h]
    · rw [if_neg (by simpa using h)]; simp [h]
theorem occ_mem {S : List (Nat × Nat × S24)} {x : S24} {p : Nat × Nat} (h : p ∈ occ S x) : (p.1, p.2, x) ∈ S := by
  unfold occ at h; obtain ⟨t, ht, hq⟩ := List.mem_filterMap.1 h; split at hq
  · rename_i hx
    obtain rfl := Option.some.inj hq; rw [← eq_of_beq hx]; exact ht
  · cases hq
theorem mem_occ {S : List (Nat × Nat × S24)} {t : Nat × Nat × S24} (h : t ∈ S) : (t.1, t.2.1) ∈ occ S t.2.2 := by
  unfold occ; exact List.mem_filterMap.2 ⟨t, h, by rw [if_pos (beq_self_eq_true _)]⟩
def posOf (l : List S24) (S : List (Nat × Nat × S24)) (i : Nat) : Nat × Nat := ((occ S (J24 l i))[cntB l i]?).getD (0, 0)
def fitsP (l : List S24) (S : List (Nat × Nat × S24)) : Bool :=
  ((List.range l.length).all fun i => decide (cntB l i < (occ S (J24 l i)).length)) && (S.length == l.length && (((List.range l.length).all fun i : Nat => mayOp (J24 l i).f0 ((posOf l S i).2 : Int)) && (edges l).all fun e => decide (e.f2 ≤ ((posOf l S e.f1.toNat).1 : Int) - ((posOf l S e.f0.toNat).1 : Int))))
theorem edges_in {l : List S24} {e : S51} (he : e ∈ edges l) : ∃ i t : Nat, e.f0 = (i : Int) ∧ e.f1 = (t : Int) ∧ i < l.length ∧ t < l.length := by
  obtain ⟨i, t, h1, h2, h3, h4⟩ := edges_range l _ _ e he; exact ⟨i, t, h1, h2, by omega, h4⟩
end Go.Den
end
section
-- the texts that this claim needs, out of this session's and its print's (wip/shrink.py)
namespace Go.Den
open Go Go.RowKit Go.Proofs Go.Proofs.Ytibfkkjkahpobaa.PDag
open Go.Maps Go.WideElems Go.MapKept
open Go.ChangeMaps (setBlock heap_setBlock_same heap_setBlock_other putKey)
def keyV (x : S24) : Value := .agg #[.int .i64 x.f0, .int .i64 x.f1, .int .i64 x.f2, .int .i64 x.f3, .int .i64 x.f4, .string x.f5]
def nilV : Value := .slice none 0 0
theorem und115 : Try.prog.underlying 130 = some (.map 24 108) := by kernel_rfl
theorem und3 : Try.prog.underlying 3 = some (.int .i64) := by kernel_rfl
theorem und9 : Try.prog.underlying 9 = some .string := by kernel_rfl
theorem keyT24 : Try.prog.keyType 24 = true := by kernel_rfl
theorem law24 : WideMaps.KeyLaw Try.prog  24 := deep_law_laid (by kernel_rfl) (m := 200) (by omega) (by decide +kernel) (by kernel_rfl) (by kernel_rfl)
theorem kd24 : Keyed Try.prog  24 := Keyed.of_law law24
theorem size_nil {s : ByteArray} (h : s.toList = []) : s.size = 0 := (toList_nil s).1 h
theorem imm_parts {f imm : Int} {s : ByteArray} (h : immOk f imm s = true) : (-131072 ≤ imm ∧ imm ≤ 131072) ∧ s.size ≤ 12 := by
  have hname : nameOk s = true → s.size ≤ 12 := fun h => by
    unfold nameOk at h; simp only [Bool.and_eq_true, decide_eq_true_eq] at h; exact h.2.1
  have h14 : fit14 imm = true → -131072 ≤ imm ∧ imm ≤ 131072 := fun h => by
    unfold fit14 at h; have := of_decide_eq_true h; omega
  have h18 : fit18 imm = true → -131072 ≤ imm ∧ imm ≤ 131072 := fun h => by
    unfold fit18 at h; have := of_decide_eq_true h; omega
  have h0 : (imm == 0) = true → -131072 ≤ imm ∧ imm ≤ 131072 := fun h => by
    have := eq_of_beq h; omega
  unfold immOk at h; split at h
  · split at h
    · rename_i hs
      have := of_decide_eq_true h; exact ⟨by omega, by rw [size_nil hs]; omega⟩
    · simp only [Bool.and_eq_true] at h; exact ⟨h0 h.1, hname h.2⟩
  · split at h
    · rename_i hs
      refine ⟨?_, by rw [size_nil hs]; omega⟩; split at h
      · exact h14 h
      · split at h
        · exact h18 h
        · exact h0 h
    · split at h
      · simp only [Bool.and_eq_true] at h; exact ⟨h18 h.2, hname h.1⟩
      · cases h
theorem wf_of {n : Int} (h0 : -131072 ≤ n) (h1 : n ≤ 131072) : (Lit.int .i64 n).wf = true := by
  have e0 : IntKind.i64.min = -9223372036854775808 := by decide
  have e1 : IntKind.i64.max = 9223372036854775807 := by decide
  show (decide (IntKind.i64.min ≤ n) && decide (n ≤ IntKind.i64.max)) = true; rw [e0, e1, decide_eq_true (by omega), decide_eq_true (by omega)]; rfl
theorem okI_wf {x : S24} (h : okI x = true) : (∀ n ∈ [x.f0, x.f1, x.f2, x.f3, x.f4], (Lit.int .i64 n).wf = true) ∧ x.f5.size ≤ 12 := by
  obtain ⟨h0, h1, h2, h3, h4⟩ := ins_parts h; have h1 := reg_parts h1; have h2 := reg_parts h2; have h3 := reg_parts h3; obtain ⟨h4, h5⟩ := imm_parts h4; refine ⟨fun n hn => ?_, h5⟩; simp only [List.mem_cons, List.not_mem_nil, or_false] at hn; rcases hn with rfl | rfl | rfl | rfl | rfl <;> exact wf_of (by omega) (by omega)
theorem keyOf_ins {x : S24} (h : okI x = true) : ∃ kl, keyOf Try.prog  24 (keyV x) = some kl := by
  obtain ⟨h1, h2⟩ := okI_wf h; have e0 := h1 x.f0 (by simp); have e1 := h1 x.f1 (by simp); have e2 := h1 x.f2 (by simp); have e3 := h1 x.f3 (by simp); have e4 := h1 x.f4 (by simp); have hc : Try.prog.cellsOf 24 = 6 := by kernel_rfl
  have hc3 : Try.prog.cellsOf 3 = 1 := by kernel_rfl
  have hc9 : Try.prog.cellsOf 9 = 1 := by kernel_rfl
  have hm : x.f5.size ≤ maxLen := by unfold maxLen; omega
  obtain ⟨n, hn⟩ : ∃ n, Try.prog.types.size = n + 1 := ⟨Try.prog.types.size - 1, by kernel_rfl⟩
  unfold keyOf; rw [Try.underlying24]; simp only [keyT24, keyV, Value.formed, Try.underlying24, hc, Value.cells]; rw [hn]; simp [Program.keyLits, Try.underlying24, hc, hc3, hc9, und3, und9, e0, e1, e2, e3, e4, hm]
noncomputable def klOf (x : S24) : Lit := (keyOf Try.prog  24 (keyV x)).getD (.bool false)
theorem keyOf_at {x : S24} (h : okI x = true) : keyOf Try.prog  24 (keyV x) = some (klOf x) := by
  obtain ⟨kl, hk⟩ := keyOf_ins h; unfold klOf; rw [hk]; rfl
theorem keyV_inj {x y : S24} (h : keyV x = keyV y) : x = y := by
  obtain ⟨x0, x1, x2, x3, x4, x5⟩ := x; obtain ⟨y0, y1, y2, y3, y4, y5⟩ := y; unfold keyV at h; simp only [Value.agg.injEq, Array.mk.injEq, List.cons.injEq, Value.int.injEq, Value.string.injEq, true_and, and_true] at h; obtain ⟨h0, h1, h2, h3, h4, h5⟩ := h; subst h0 h1 h2 h3 h4 h5; rfl
theorem klOf_inj {x y : S24} (hx : okI x = true) (hy : okI y = true) (h : klOf x = klOf y) : x = y :=
  keyV_inj (law24.inj (keyOf_at hx) (by rw [h]; exact keyOf_at hy))
def RR : Value → Option (DataW Value × List MemPlace) := fun v => some (.held v, [])
noncomputable def srt (es : Array MapEntry) : List (Lit × DataW Value) := (es.toList.map (rg Try.prog  24 RR)).foldr DataW.insert []
def MapOk (o : Obj) (v : S24 → Value) (n : Nat) : Prop := ∃ es clock, o = .map es clock ∧ Fit Try.prog  24 RR es clock ∧ es.size ≤ n ∧ ∀ x, okI x = true → (DataW.map (srt es)).atKey (klOf x) (.held nilV) = .held (v x)
section
variable {w : World} {b n : Nat} {o : Obj} {v : S24 → Value} {x : S24}
theorem zero94 (w : World) : (zeroValue 108).run Try.prog  w = .ok nilV w := by
  have hz : (Try.prog.info? 108).map (·.zero) = some (some nilV) := by kernel_rfl
  obtain ⟨i, hi, hz⟩ := Option.map_eq_some_iff.1 hz; simp [zeroValue, typeInfo, hi, hz]
theorem map_made : MapOk (.map #[] 0) (fun _ => nilV) 0 := by
  refine ⟨#[], 0, rfl, ⟨by simp, stamped_empty 0, by simp⟩, Nat.le_refl _, fun x _ => ?_⟩; rfl
theorem map_look (hm : MapOk o v n) (hb : w.heap[b]? = some o) (hx : okI x = true) : (Instr.lookup 130 (.map (some b)) (keyV x) false).run Try.prog  w = .ok (v x) w := by
  obtain ⟨es, clock, rfl, F, hs, hv⟩ := hm; have hvx := hv x hx; rcases Maps.fit_look false kd24 und115 (zero94 w) hb F (keyOf_at hx) with ⟨hrun, _, hat⟩ | ⟨e0, y, _, _, hrun, hR, hat, _⟩
  · have h1 : DataW.held nilV = DataW.held (v x) := (hat _).symm.trans hvx; injection h1 with h1
    rw [hrun, h1]; rfl
  · obtain rfl := Option.some.inj hR; have h1 : DataW.held e0.val = DataW.held (v x) := (hat _).symm.trans hvx; injection h1 with h1
    rw [hrun, h1]; rfl
theorem map_upd (hm : MapOk o v n) (hb : w.heap[b]? = some o) (hx : okI x = true) (hn : n < maxLen) (val : Value) : ∃ es' clock', (Instr.mapUpdate 130 (.map (some b)) (keyV x) val).run Try.prog  w = .ok () (setBlock w b (.map es' clock')) ∧ MapOk (.map es' clock') (fun y => if eqI y x = true then val else v y) (n + 1) := by
  obtain ⟨es, clock, rfl, F, hs, hv⟩ := hm; obtain ⟨es', clock', hrun, F', hput, _⟩ := Maps.fit_store (R' := RR) (val := val) kd24 und115 hb F (Nat.lt_of_le_of_lt hs hn) (fun _ _ _ _ h => h) (keyOf_at hx) rfl; refine ⟨es', clock', hrun, es', clock', rfl, F', ?_, fun y hy => ?_⟩
  · have e1 : es'.size = ((es'.toList.map (rg Try.prog  24 RR)).foldr DataW.insert []).length := by rw [length_sorted]; simp
    rw [e1, hput]; unfold putKey; rw [length_insert]; have e2 := List.length_filter_le (ChangeMaps.notKey (klOf x)) ((es.toList.map (rg Try.prog  24 RR)).foldr DataW.insert []); rw [length_sorted] at e2; simp at e2; omega
  · have h1 : DataW.map (srt es') = (DataW.map (srt es)).put (klOf x) (.held val) := by
      rw [DataW.put_eq]; exact congrArg DataW.map hput
    rw [h1]; show _ = DataW.held (if eqI y x = true then val else v y)
    by_cases he : eqI y x = true
    · rw [if_pos he, eqI_eq he]; exact atKey_put_same ⟨_, rfl⟩ (kd24.key (keyOf_at hx)) _ _
    · rw [if_neg he, atKey_put_other (fun h => he (by rw [klOf_inj hy hx h]; exact eqI_self x))]; exact hv y hy
theorem map_entry (hm : MapOk o v n) (hb : w.heap[b]? = some o) (hx : okI x = true) (hn : n < maxLen) : ∃ (st : Nat) (o1 : Obj), (∃ es1 clock1, o1 = .map es1 clock1) ∧ (Instr.mapEntry 130 (.map (some b)) (keyV x)).run Try.prog  w = .ok (.tuple #[v x, goInt st]) (setBlock w b o1) ∧
    ∀ (w2 : World) (val : Value), w2.heap[b]? = some o1 → ∃ es' clock', (Instr.entryStore 130 (.map (some b)) (goInt st) val).run Try.prog  w2 = .ok () (setBlock w2 b (.map es' clock')) ∧ MapOk (.map es' clock') (fun y => if eqI y x = true then val else v y) (n + 1) := by
  have hm' := hm; obtain ⟨es, clock, rfl, F, hs, hv⟩ := hm; obtain ⟨v0, st, es1, clock1, hrun, hwho, hst⟩ := entry_then_store law24 und115 zero94 hb F (keyOf_at hx); have hlook := map_look hm' hb hx
  have hv0 : v0 = v x := by
    rcases Maps.fit_look false kd24 und115 (zero94 w) hb F (keyOf_at hx) with ⟨h1, h2, _⟩ | ⟨e0, y, h1, h2, h3, _⟩
    · rw [h1] at hlook; have hz : nilV = v x := by simpa using hlook
      rcases hwho with ⟨e0, h3, h4, _⟩ | ⟨_, h4⟩
      · exact absurd h4 (h2 e0 h3)
      · rw [h4, hz]
    · rw [h3] at hlook; have hz : e0.val = v x := by simpa using hlook
      rcases hwho with ⟨e1, h4, h5, h6⟩ | ⟨h4, _⟩
      · rw [h6, ← hz]; obtain ⟨i, hi, rfl⟩ := List.getElem_of_mem h4; obtain ⟨j, hj, rfl⟩ := List.getElem_of_mem h1; have hp := List.pairwise_iff_getElem.1 ((stamped_iff es clock).1 F.stamped).2.2; rcases Nat.lt_trichotomy i j with h | h | h
        · exact absurd (h5.trans h2.symm) (hp i j hi hj h)
        · subst h; rfl
        · exact absurd (h2.trans h5.symm) (hp j i hj hi h)
      · exact absurd h2 (h4 e0 h1)
  refine ⟨st, .map es1 clock1, ⟨_, _, rfl⟩, by rw [hrun, hv0], fun w2 val hw2 => ?_⟩; obtain ⟨es', clock', h1, h2⟩ := hst w2 val hw2; obtain ⟨es2, clock2, h3, h4⟩ := map_upd hm' hb hx hn val; rw [h2] at h3; have h5 : setBlock w b (.map es' clock') = setBlock w b (.map es2 clock2) := by simpa using h3
  have h6 : Obj.map es' clock' = Obj.map es2 clock2 := by
    have h7 := congrArg (fun u : World => u.heap[b]?) h5; simp only [heap_setBlock_same hb] at h7; exact Option.some.inj h7
  rw [← h6] at h4; exact ⟨es', clock', h1, h4⟩
end
end Go.Den
end
