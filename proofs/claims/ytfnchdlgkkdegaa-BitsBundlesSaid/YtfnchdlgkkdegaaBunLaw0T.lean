-- the texts that this claim needs, out of this session's and its print's (wip/shrink.py)
import Derived.Test.YtfnchdlgkkdegaaBunMoreT
import Derived.Test.YtfnchdlgkkdegaaPAllx10T
import Derived.Test.YtfnchdlgkkdegaaPAllx21T
set_option linter.unusedVariables false
set_option linter.unusedSimpArgs false
namespace Go.Proofs.Ytfnchdlgkkdegaa.PAll
open Go.RowKit Go.Proofs.YtfnchdlgkkdegaaW.PrintWords Go.Proofs.YtfnchdlgkkdegaaW.PrintLast Go.Proofs.YtfnchdlgkkdegaaW.PrintMore
attribute [local go_sem] Oper.semAt_some
def good4 (L : List Int) : Bool := decide (L.length = 4) && okUp L 4
def bunR2 (L : List Int) : S52 := if good4 L = true then upB L 4 else z52
def bunE2 (L : List Int) : Int := if good4 L = true then 0 else 8
def AllU (L : List Int) : Prop := ∀ x ∈ L, UW x
theorem rd_uw {L : List Int} (h : AllU L) (j : Nat) (hj : j < L.length) : UW (rd L j) := by
  unfold rd
  rw [Int.toNat_natCast, List.getD_eq_getElem?_getD, List.getElem?_eq_getElem hj]
  exact h _ (List.getElem_mem hj)
set_option maxRecDepth 100000 in
set_option maxHeartbeats 4000000 in
theorem bundle2_calls (A : Option Addr) (c : Nat) (L : List Int) (w : World) (hr : Kd.C (Kd.int .u32) w A L.length L) (hu : AllU L) :
    Calls Try.prog 21 #[.slice A L.length c] w fun e w' => e = .returned (.tuple #[.agg (bunC (bunR2 L)).toArray, .int .i64 (bunE2 L)]) ∧ Below w.heap.size w w' := by
  by_cases h4 : L.length = 4
  · have hb := bundle_calls A c L w h4 (by rw [← h4]; exact hr) (fun j hj => rd_uw hu j (by omega))
    rw [h4]
    refine hb.mono ?_
    rintro e w' ⟨rfl, hb⟩
    refine ⟨?_, hb⟩
    unfold bunR2 bunE2 good4 bunR bunE
    rw [decide_eq_true h4, Bool.true_and]
  · have hu52 := Try.underlying52
    have c1 : ((L.length : Int) == 4) = false := beq_eq_false_iff_ne.mpr (by omega)
    have c2 : ((L.length : Int) != 4) = true := bne_iff_ne.mpr (by omega)
    have HN := As_.mk h4
    clear h4 hr hu
    go_enter Try.func21, Try.ntmps21
    go_wp2_with (first | ((with_reducible refine gate_dst (N := 2) rfl ?_); refine box_event ?hg (N := 2) ?hd (cs := (bunC z52).toArray) (t := 52) ?hr ?_; (case hd => rfl); (case hg => rfl); (case hr => first | (go_simp; done) | (go_simp; rfl)); intro g2 hg2 w1 hbox hb; have BK2 := As_.mk hbox; have HB := As_.mk hb; have G2 := As_.mk (show w.heap.size ≤ g2 from by rw [hg2]; exact Nat.le_refl _); clear hbox hb hg2) | ((with_reducible refine gate_dst (N := 4) rfl ?_); refine box_event ?hg (N := 4) ?hd (cs := (bunC z52).toArray) (t := 52) ?hr ?_; (case hd => rfl); (case hg => rfl); (case hr => first | (go_simp; done) | (go_simp; rfl)); intro g4 hg4 w2 hbox hb; have BK22 := As_.mk (kB_ BK2.out hb); have HB2 := As_.mk (HB.out.trans (hb.mono HB.out.size)); clear hbox hb hg4) | ((with_reducible refine gate_dst (N := 12) rfl ?_); refine val_event (N := 12) (w1 := w2) (v := .agg (bunC z52).toArray) ?hg ?hd ?hr ?_; (case hd => rfl); (case hg => rfl); (case hr => first | (go_simp; done) | (go_simp; rfl))) | ((with_reducible refine gate_store (t := 52) (p := 2) rfl ?_); obtain ⟨h7a, h7b⟩ := box52 BK22.out z52; have H7A := As_.mk h7a; have H7B := As_.mk h7b; clear h7a h7b; refine store_event (t := 52) (p := 2) (v := .tmp 12) (w1 := w2.setCells g2 0 (bunC z52)) ?hg ?ho ?hn ?hr ?_; (case ho => rfl); (case hg => rfl); (case hn => rfl); (case hr => exact exec_store rfl rfl rfl H7B.out); intro w3 hw_; have BK23 := As_.mk (at_ hw_ H7A.out); have HB3 := As_.mk (bset_ hw_ HB2.out HB2.out.size G2.out); clear hw_ H7A H7B))
    refine bodyPost_ret (results_ct rfl _ _ g2 52 (bunC z52).toArray (0, 0) _ rfl BK23.out Try.underlying52 rfl (by kernel_rfl)) rfl ?_
    exact ⟨by unfold bunR2 bunE2 good4; rw [decide_eq_false HN.out]; rfl, HB3.out⟩
theorem unword_calls (x : Int) (hx : UW x) (w : World) : Calls Try.prog 13 #[.int .u32 x] w fun e w' => e = .returned (.tuple #[.agg (insC (unwS x)).toArray, .bool (isWord x)]) ∧ Below w.heap.size w w' := by
  have h := unword_eq (k := 70) (Nat.le_refl _) x hx.1 hx.2
  cases hw : isWord x with
  | true =>
    rw [hw, if_pos rfl] at h
    refine (r3_Unword.calls 70 x _ _ _ _ _ _ _ w h).mono ?_
    rintro e w' ⟨rfl, hb⟩
    exact ⟨by unfold unwS; rw [if_pos hw]; rfl, hb⟩
  | false =>
    rw [hw, if_neg (by decide)] at h
    refine (r3_Unword.calls 70 x _ _ _ _ _ _ _ w h).mono ?_
    rintro e w' ⟨rfl, hb⟩
    exact ⟨by unfold unwS; rw [if_neg (by rw [hw]; decide)]; rfl, hb⟩
theorem wrapN {n : Nat} (h : n ≤ 1000000000000) : wrap64 ((n : Int) + 1) = ((n + 1 : Nat) : Int) := by unfold wrap64; omega
theorem eqw_loop (l : List Int) (hl : l.length ≤ 100) : ∀ (d k i : Nat), i + d = l.length → d + 1 ≤ k → r0_EqWords.l0 k l l (i : Int) = some true
  | 0, k, i, hi, hk => by
    obtain ⟨k, rfl⟩ : ∃ m, k = m + 1 := ⟨k - 1, by omega⟩
    rw [r0_EqWords.l0, if_neg (by omega)]
  | d + 1, k, i, hi, hk => by
    obtain ⟨k, rfl⟩ : ∃ m, k = m + 1 := ⟨k - 1, by omega⟩
    rw [r0_EqWords.l0, if_pos (by omega), if_pos (by omega), if_pos (by omega), if_pos rfl, wrapN (by omega)]
    exact eqw_loop l hl d k (i + 1) (by omega) (by omega)
theorem eqw_eq (l : List Int) (hl : l.length ≤ 100) : r0_EqWords.f 200 l l = some true := by
  unfold r0_EqWords.f
  rw [if_pos rfl]
  exact eqw_loop l hl l.length 200 0 (by omega) (by omega)
theorem cpw_loop (l : List Int) (hl : l.length ≤ 100) : ∀ (d k i : Nat) (acc : List Int), i + d = l.length → acc.length = i → d + 1 ≤ k → r0_CopyWords.l0 k l acc (i : Int) = some (acc ++ l.drop i)
  | 0, k, i, acc, hi, ha, hk => by
    obtain ⟨k, rfl⟩ : ∃ m, k = m + 1 := ⟨k - 1, by omega⟩
    rw [r0_CopyWords.l0, if_neg (by omega), List.drop_of_length_le (by omega), List.append_nil]
  | d + 1, k, i, acc, hi, ha, hk => by
    obtain ⟨k, rfl⟩ : ∃ m, k = m + 1 := ⟨k - 1, by omega⟩
    have hlt : i < l.length := by omega
    have hrd : rd l (i : Int) = l[i] := by unfold rd; rw [Int.toNat_natCast, List.getD_eq_getElem?_getD, List.getElem?_eq_getElem hlt]; rfl
    rw [r0_CopyWords.l0, if_pos (by omega), if_pos (by omega), if_pos (by omega), wrapN (by omega), cpw_loop l hl d k (i + 1) _ (by omega) (by simp; omega) (by omega), List.drop_eq_getElem_cons hlt, List.append_assoc, hrd]
    rfl
theorem cpw_eq (l : List Int) (hl : l.length ≤ 100) : r0_CopyWords.f 200 l = some l := by
  unfold r0_CopyWords.f
  have := cpw_loop l hl l.length 200 0 [] (by omega) rfl (by omega)
  simpa using this
theorem wds_loop : ∀ (d k i : Nat) (l : List Int), l.length ≤ 100 → i + d = l.length → d + 1 ≤ k → ∃ r, w0_Words.l0 k l (i : Int) = some r
  | 0, k, i, l, hl, hi, hk => by
    obtain ⟨k, rfl⟩ : ∃ m, k = m + 1 := ⟨k - 1, by omega⟩
    exact ⟨l, by rw [w0_Words.l0, if_neg (by omega)]⟩
  | d + 1, k, i, l, hl, hi, hk => by
    obtain ⟨k, rfl⟩ : ∃ m, k = m + 1 := ⟨k - 1, by omega⟩
    obtain ⟨r, hr⟩ := wds_loop d k (i + 1) (l.set (i : Int).toNat 3735928559) (by simpa using hl) (by simp; omega) (by omega)
    exact ⟨r, by rw [w0_Words.l0, if_pos (by omega), if_pos (by omega), wrapN (by omega)]; exact hr⟩
theorem wds_eq (l : List Int) (hl : l.length ≤ 100) : ∃ r, w0_Words.f 200 l = some r := wds_loop l.length 200 0 l hl (by omega) (by omega)
structure SL where
  A : Option Addr
  n : Nat
  c : Nat
def encS (p : SL × List Int) : Value := .slice p.1.A p.1.n p.1.c
def kS : Kd (SL × List Int) := Kd.scalar encS (fun _ => rfl)
def zS : SL × List Int := (⟨none, 0, 0⟩, [])
def Rows (W : World) (B : Nat) (ps : List (SL × List Int)) : Prop := ∀ p ∈ ps, Kd.R (Kd.int .u32) 33 W B (fun _ => True) (encS p) p.2 ∧ AllU p.2 ∧ p.2.length ≤ 5
theorem Rows.below {W W1 : World} {B : Nat} {ps : List (SL × List Int)} (h : Rows W B ps) (hb : Below W.heap.size W W1) : Rows W1 B ps := fun p hp => ⟨Kd.R_below (h p hp).1 hb, (h p hp).2⟩
theorem Rows.over {W W1 : World} {B : Nat} {ps qs : List (SL × List Int)} {base : Nat} {ok : Nat → Prop} {v : Value} (h : Rows W B ps) (hv : kS.R 26 W base ok v qs) (hg : W.grownBy W1 v.ownBlock) : Rows W1 B ps := fun p hp => ⟨Kd.R_over' (h p hp).1 (Kd.R_typed hv) (by intro q hq; rcases List.mem_cons.1 hq with rfl | h2; decide; cases h2) hg, (h p hp).2⟩
theorem Rows.append {W : World} {B : Nat} {ps qs : List (SL × List Int)} (h : Rows W B ps) (h2 : Rows W B qs) : Rows W B (ps ++ qs) := fun p hp => by
  rcases List.mem_append.1 hp with a | a
  · exact h p a
  · exact h2 p a
theorem grown_none {W W1 : World} (hg : W.grownBy W1 none) : Below W.heap.size W W1 := ⟨hg.os, hg.tape, hg.output, hg.size, fun i hi => hg.block i hi (by simp)⟩
theorem rows_nil (W : World) (B : Nat) : Rows W B [] := fun p hp => by cases hp
theorem rows_cons {W : World} {B : Nat} {A : Option Addr} {n c : Nat} {L : List Int} {ps : List (SL × List Int)} (h : Kd.R (Kd.int .u32) 33 W B (fun _ => True) (.slice A n c) L) (hu : AllU L) (hl : L.length ≤ 5) (hr : Rows W B ps) : Rows W B ((⟨A, n, c⟩, L) :: ps) := fun p hp => by
  rcases List.mem_cons.1 hp with rfl | a
  · exact ⟨h, hu, hl⟩
  · exact hr p a
theorem rows_z {W : World} {B : Nat} {ps : List (SL × List Int)} (hr : Rows W B ps) : Rows W B (zS :: ps) := fun p hp => by
  rcases List.mem_cons.1 hp with rfl | a
  · exact ⟨Kd.R_nil _ _ _ _ _, (fun x hx => by cases hx), by show 0 ≤ 5; omega⟩
  · exact hr p a
theorem allU_snoc {L : List Int} (h : AllU L) : AllU (L ++ [0]) := fun x hx => by
  rcases List.mem_append.1 hx with a | a
  · exact h x a
  · obtain rfl := List.mem_singleton.1 a
    exact ⟨by omega, by omega⟩
theorem row_head {W : World} {B : Nat} {ok : Nat → Prop} {v : Value} {L : List Int} (h : Kd.R (Kd.int .u32) 33 W B ok v L) : ∃ A c, v = .slice A L.length c := Kd.R_slice h
theorem wordOf_uw (op d a b imm : Int) : UW (wordOf op d a b imm) := by
  unfold wordOf
  simp only
  obtain ⟨x, hx, ex⟩ := modNat ((op % 4294967296) * 67108864)
  obtain ⟨y, hy, ey⟩ := modNat ((if formOf op = 5 then b else d) % 4294967296 * 4194304)
  obtain ⟨z, hz, ez⟩ := modNat ((a % 4294967296) * 262144)
  obtain ⟨u, hu, eu⟩ := modNat ((if formOf op = 5 then 0 else b) % 4294967296 * 16384)
  rw [ex, ey, ez, eu, or_nat hx hy, or_nat (or_lt hx hy) hz, or_nat (or_lt (or_lt hx hy) hz) hu]
  have hall := or_lt (or_lt (or_lt hx hy) hz) hu
  split
  · have hl : ∃ n : Nat, n < 4294967296 ∧ low imm (bitsOf (formOf op)) = (n : Int) := by
      unfold low
      obtain ⟨n, hn, en⟩ := modNat imm
      obtain ⟨m, hm, em⟩ := modNat ((shl .u32 1 (bitsOf (formOf op))) - 1)
      rw [en, em, u32_and_nat n m hn hm]
      exact ⟨_, Nat.lt_of_le_of_lt Nat.and_le_left hn, rfl⟩
    obtain ⟨n, hn, en⟩ := hl
    rw [en, or_nat hall hn]
    have := or_lt hall hn
    unfold UW; omega
  · unfold UW; omega
theorem wl_uw (b : S52) (h : isBun b 4 = true) : ∀ n, n ≤ 4 → AllU (wl b n)
  | 0, _ => fun x hx => by cases hx
  | n + 1, hn => by
    intro x hx
    rw [wl] at hx
    rcases List.mem_append.1 hx with a | a
    · exact wl_uw b h n (by omega) x a
    · obtain rfl := List.mem_singleton.1 a
      unfold wordX
      exact wordOf_uw _ _ _ _ _
theorem wdL_ok (b : S52) : (wdL b).length ≤ 4 ∧ AllU (wdL b) := by
  unfold wdL
  split
  · rename_i h
    exact ⟨by rw [wl_len]; exact Nat.le_refl _, wl_uw b h.1 4 (Nat.le_refl _)⟩
  · exact ⟨by simp, fun x hx => by cases hx⟩
theorem allU_set {L : List Int} (h : AllU L) (i : Nat) {x : Int} (hx : UW x) : AllU (L.set i x) := by
  intro y hy
  rcases List.mem_or_eq_of_mem_set hy with a | a
  · exact h y a
  · rw [a]; exact hx
theorem allU_take {L : List Int} (h : AllU L) (i : Nat) : AllU (L.take i) := fun y hy => h y (List.mem_of_mem_take hy)
theorem own_shape {α : Type} {d : Kd α} {e : Nat} {W : World} {base : Nat} {ok : Nat → Prop} {v : Value} {xs : List α} (h : d.R e W base ok v xs) (hn : 0 < xs.length) : ∃ g cap, v = .slice (some ⟨g, 0, none⟩) xs.length cap ∧ base ≤ g := by
  obtain ⟨inner, ho⟩ := Kd.R_own h
  rcases ho.2 with ⟨_, h0⟩ | ⟨g, cap, cur, rfl, hb, _⟩
  · omega
  · exact ⟨g, cap, rfl, hb⟩
theorem xor_uw {x z : Int} (hx : UW x) (hz : UW z) : UW (Go.bits .xor .u32 x z) := by
  obtain ⟨a, ha⟩ := Int.eq_ofNat_of_zero_le hx.1
  obtain ⟨u, eu⟩ := Int.eq_ofNat_of_zero_le hz.1
  have ha2 : a < 4294967296 := by have := hx.2; omega
  have hu : u < 4294967296 := by have := hz.2; omega
  rw [ha, eu, u32_xor_nat a u ha2 hu]
  have := Nat.xor_lt_two_pow (n := 32) ha2 hu
  unfold UW; omega
theorem wrap_uw (z : Int) : UW (IntKind.u32.wrap z) := by
  rw [IntKind.wrap_u32']
  unfold UW; omega
theorem ty33 : ∀ q, q ∈ 33 :: (Kd.int .u32).E → q ≠ 26 := by
  intro q hq
  rcases List.mem_cons.1 hq with rfl | h2
  · decide
  · cases h2
theorem at_head {w : World} {A : Option Addr} {ps : List (SL × List Int)} (h : kS.C w A ps.length ps) (i : Nat) (hi : i < ps.length) : ∃ ad, A = some ad ∧ w.cell? (ad.add i) = some (encS (ps.getD i zS)) := by
  obtain ⟨ad, c, e, hcl, hK, hc⟩ := Kd.C_get h zS (i : Int) (Int.natCast_nonneg _) (by omega)
  rw [Int.toNat_natCast, show kS.sz = 1 from rfl] at hc
  rw [Int.toNat_natCast] at hK
  have hk : c = [encS (ps.getD i zS)] := hK
  subst hk
  refine ⟨ad, e, ?_⟩
  have := hc 0 _ rfl
  simpa using this
section
variable {P : Program} {ops : Array Oper} {rest : List Oper} {o : Oper} {a : Act} {Q : Exit → Act → World → Prop}
theorem val_event_g {W w1 : World} {v : Value} (hw : Region.wanted o (yielded ops a.tmps) = true) {N : Tmp} (_hd : o.dst = some N) (hrun : (execOp a.eval o).run P W = .ok (.value v) w1)
    (h : wpList P ops Q rest (a.put o.dst v) w1) : wpList P ops Q (o :: rest) a W := BigFrame.wpList_want hw fun K hK => by
  unfold Oper.wp
  rw [hrun]
  exact hK _ _ h
end
theorem good4_of {M : List Int} (h4 : M.length = 4) (h : okUp M 4 = true) : good4 M = true := by unfold good4; rw [decide_eq_true h4, h]; rfl
theorem load_row52 {w : World} {ad : Addr} {n : Nat} {xs : List S52} (h : Kd.C k52 w (some ad) n xs) (i : Nat) (hi : i < n) : (Instr.loadAt 52 (.pointer (some (ad.add (i * 24))))).run Try.prog w = .ok (.agg (bunC (J52 xs i)).toArray) w := by
  obtain ⟨ad', c, e, hcl, hK, hc⟩ := Kd.C_get h z52 (i : Int) (Int.natCast_nonneg _) (by omega)
  obtain rfl := Option.some.inj e
  rw [Int.toNat_natCast, show k52.sz = 24 from rfl] at hc
  have hb : xs.getD (i : Int).toNat z52 = J52 xs i := rfl
  rw [hb] at hK
  obtain rfl := k52_open hK
  have hl := run_loadCells_list (P := Try.prog) w (ad.add (i * 24)) (bunC (J52 xs i)) (fun j v hv => by rw [add_add]; exact hc j v hv)
  obtain ⟨i0, hi0, hz⟩ := Option.map_eq_some_iff.1 info52
  simp only [Prod.mk.injEq] at hz
  have hl2 : (loadCells (ad.add (i * 24)) 24).run Try.prog w = .ok (bunC (J52 xs i)).toArray w := hl
  clear hl hc hK
  generalize bunC (J52 xs i) = X at hl2 ⊢
  simp [Instr.loadAt, Instr.sureAddr, loadVar, isAgg, sizeOf, typeInfo, run_underlying Try.underlying52, hi0, hz.2.1, hl2, Result.andThen]
theorem eqI_cons {P : Program} {d : Nat} {e : TypeId} {c j : Nat} {is : List Nat} {xs ys : Array Value} {a b : Value} {r s : Bool} {w : World} (ha : (part e xs (j * c)).run P w = .ok a w) (hb : (part e ys (j * c)).run P w = .ok b w) (he : (Op.equalIn d e a b).run P w = .ok r w) (hr : (Op.eqItems d e c xs ys is).run P w = .ok s w) : (Op.eqItems d e c xs ys (j :: is)).run P w = .ok (r && s) w := by
  simp only [Op.eqItems, Sem.run_bind, ha, hb, he, Result.andThen_ok]
  cases r
  · simp
  · simpa using hr
theorem eqI_last {P : Program} {d : Nat} {e : TypeId} {c j : Nat} {xs ys : Array Value} {a b : Value} {r : Bool} {w : World} (ha : (part e xs (j * c)).run P w = .ok a w) (hb : (part e ys (j * c)).run P w = .ok b w) (he : (Op.equalIn d e a b).run P w = .ok r w) : (Op.eqItems d e c xs ys [j]).run P w = .ok r w := by
  have h := eqI_cons (is := []) (s := true) ha hb he (by simp [Op.eqItems])
  rwa [Bool.and_true] at h
theorem eqA52 (d : Nat) (w : World) (x : S52) : (Op.equalIn (d + 3) 52 (.agg (bunC x).toArray) (.agg (bunC x).toArray)).run Try.prog w = .ok true w := by
  obtain ⟨i35, hi35, _⟩ := Option.map_eq_some_iff.1 info35
  refine (run_equalIn_array (P := Try.prog) w (d + 2) _ _ Try.underlying52 hi35).trans ?_
  rw [show Try.prog.cellsOf 35 = 6 by kernel_rfl, show List.range 4 = [0, 1, 2, 3] from rfl]
  have h35 : ∀ y : S35, (Op.equalIn (d + 2) 35 (.agg (insC y).toArray) (.agg (insC y).toArray)).run Try.prog w = .ok true w := fun y => by
    have h := eqA35 d w y.f0 y.f0 y.f1 y.f1 y.f2 y.f2 y.f3 y.f3 y.f4 y.f4 y.f5 y.f5
    have e := eqI_refl y
    unfold eqI at e
    rw [e] at h
    exact h
  have h0 := h35 x.f0
  have h1 := h35 x.f1
  have h2 := h35 x.f2
  have h3 := h35 x.f3
  unfold bunC
  unfold insC at h0 h1 h2 h3 ⊢
  refine (eqI_cons (r := true) (s := true) (by go_simp) (by go_simp) h0 ?_).trans rfl
  refine (eqI_cons (r := true) (s := true) (by go_simp) (by go_simp) h1 ?_).trans rfl
  refine (eqI_cons (r := true) (s := true) (by go_simp) (by go_simp) h2 ?_).trans rfl
  exact eqI_last (by go_simp) (by go_simp) h3
theorem run_neq52 (x : S52) (w : World) : (Go.binOp .neq 52 (.agg (bunC x).toArray) (.agg (bunC x).toArray)).run Try.prog w = .ok (.bool false) w := by
  have h2 : (Op.equal 52 (.agg (bunC x).toArray) (.agg (bunC x).toArray)).run Try.prog w = .ok true w := show (Op.equalIn (9997 + 3) 52 (.agg (bunC x).toArray) (.agg (bunC x).toArray)).run Try.prog w = .ok true w from eqA52 9997 w x
  generalize bunC x = X at h2 ⊢
  simp [Go.binOp, h2, Result.andThen]
theorem guard52 (p q : Operand) (X Y : List Value) (w : World) : (eqGuard .neq 52 p q (.agg X.toArray) (.agg Y.toArray)).run Try.prog w = .ok () w := by
  have hk : Try.prog.eqGuardType Try.prog.depth 52 = false := by kernel_rfl
  simp [eqGuard, hk, Result.andThen]
end Go.Proofs.Ytfnchdlgkkdegaa.PAll
