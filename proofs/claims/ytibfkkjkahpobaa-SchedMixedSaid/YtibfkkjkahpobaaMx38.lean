import Derived.Test.YtibfkkjkahpobaaMx37
import Derived.Test.YtibfkkjkahpobaaMx36
import Derived.Test.YtibfkkjkahpobaaMx25
import Derived.Test.YtibfkkjkahpobaaMx28
import Derived.Test.YtibfkkjkahpobaaMx15
import Derived.Test.YtibfkkjkahpobaaMx27
set_option linter.unusedVariables false
set_option linter.unusedSimpArgs false
set_option maxHeartbeats 8000000
set_option maxRecDepth 100000
open Go.RowKit Go.Proofs.YtibfkkjkahpobaaW.PrintWords Go.Proofs.YtibfkkjkahpobaaW.PrintLast Go.Proofs.YtibfkkjkahpobaaW.PrintMore
namespace Go.Proofs.Ytibfkkjkahpobaa.PDag
section
theorem eqI_refl (x : S24) : eqI x x = true := by unfold eqI; simp
theorem eqB_refl (x : S81) : eqB x x = true := by unfold eqB; simp [eqI_refl]
theorem eqBs_refl (a : List S81) : ∀ n, eqBs a a n = true
  | 0 => rfl
  | n + 1 => by rw [eqBs, eqBs_refl a n, eqB_refl]; rfl
theorem bunF_len (l : List S24) (x : S24) : (bunF l x).length = (endC l x).2.toNat := by
  unfold bunF
  split
  · rw [List.length_set, bunAll_len]
  · exact bunAll_len l x
theorem eqnums_loop (l : List Int) (hl : l.length ≤ 1000000000) : ∀ (d k i : Nat), i + d = l.length → 1 + d ≤ k → r0_EqNumbers.l0 k l l (i : Int) = some true
  | 0, k, i, hi, hk => by
    obtain ⟨k, rfl⟩ : ∃ k', k = k' + 1 := ⟨k - 1, by omega⟩
    unfold r0_EqNumbers.l0
    rw [if_neg (by omega)]
  | d + 1, k, i, hi, hk => by
    obtain ⟨k, rfl⟩ : ∃ k', k = k' + 1 := ⟨k - 1, by omega⟩
    unfold r0_EqNumbers.l0
    rw [if_pos (by omega), if_pos (by omega), if_pos (by omega), if_pos rfl, wrap_at (by omega), eqnums_loop l hl d k (i + 1) (by omega) (by omega)]
theorem eqnums_eq {k : Nat} (l : List Int) (hl : l.length ≤ 1000000) (hk : 2000000 ≤ k) : r0_EqNumbers.f k l l = some true := by
  unfold r0_EqNumbers.f
  rw [if_pos rfl]
  exact eqnums_loop l (by omega) l.length k 0 (by omega) (by omega)
def w15_placed.f (k : Nat) (lb : List ByteArray) (l : List S24) (a2 a3 a4 a5 a6 : Int) (a7 : ByteArray) : Option Bool := if lb.isEmpty = true ∧ mayBlk l ⟨a2, a3, a4, a5, a6, a7⟩ = true then some true else none
theorem placed_true {k : Nat} {lb : List ByteArray} {l : List S24} {a2 a3 a4 a5 a6 : Int} {a7 : ByteArray} {r : Bool} (h : w15_placed.f k lb l a2 a3 a4 a5 a6 a7 = some r) : r = true := by
  unfold w15_placed.f at h
  split at h
  · exact (Option.some.inj h).symm
  · exact absurd h (by simp)
theorem placed_ev (l : List S24) (x : S24) (h : mayBlk l x = true) : Ev (fun k => w15_placed.f k [] l x.f0 x.f1 x.f2 x.f3 x.f4 x.f5) true :=
  ⟨0, fun k _ => by show w15_placed.f k [] l x.f0 x.f1 x.f2 x.f3 x.f4 x.f5 = some true; unfold w15_placed.f; exact if_pos ⟨rfl, h⟩⟩
structure PRows (W : World) (gb : Nat) (A0 : Option Addr) (c0 : Nat) (Al : Option Addr) (cl : Nat) (l : List S24) (x : S24) : Prop where
  b : W.heap[gb]? = some (.cells #[.slice A0 0 c0, .slice Al l.length cl, .int .i64 x.f0, .int .i64 x.f1, .int .i64 x.f2, .int .i64 x.f3, .int .i64 x.f4, .string x.f5] 73 (0, 0))
  l : Kd.C k24 W Al l.length l
theorem PRows.below {W W' : World} {gb : Nat} {A0 : Option Addr} {c0 : Nat} {Al : Option Addr} {cl : Nat} {l : List S24} {x : S24} (h : PRows W gb A0 c0 Al cl l x) (hb : Below W.heap.size W W') : PRows W' gb A0 c0 Al cl l x :=
  ⟨kB_ h.b hb, Kd.C_below h.l hb⟩
theorem PRows.cells {W : World} {gb : Nat} {A0 : Option Addr} {c0 : Nat} {Al : Option Addr} {cl : Nat} {l : List S24} {x : S24} (h : PRows W gb A0 c0 Al cl l x) :
    W.cell? ⟨gb, 0, none⟩ = some (.slice A0 0 c0) ∧ W.cell? ⟨gb, 1, none⟩ = some (.slice Al l.length cl) ∧ W.cell? ⟨gb, 2, none⟩ = some (.int .i64 x.f0) ∧ W.cell? ⟨gb, 3, none⟩ = some (.int .i64 x.f1) ∧ W.cell? ⟨gb, 4, none⟩ = some (.int .i64 x.f2) ∧ W.cell? ⟨gb, 5, none⟩ = some (.int .i64 x.f3) ∧ W.cell? ⟨gb, 6, none⟩ = some (.int .i64 x.f4) ∧ W.cell? ⟨gb, 7, none⟩ = some (.string x.f5) :=
  ⟨(bC_ h.b 0).trans rfl, (bC_ h.b 1).trans rfl, (bC_ h.b 2).trans rfl, (bC_ h.b 3).trans rfl, (bC_ h.b 4).trans rfl, (bC_ h.b 5).trans rfl, (bC_ h.b 6).trans rfl, (bC_ h.b 7).trans rfl⟩
theorem placed_walk (A0 : Option Addr) (c0 : Nat) (Al : Option Addr) (cl : Nat) (l : List S24) (x : S24) (w : World) (hl : Kd.C k24 w Al l.length l) (hcl : l.length ≤ cl) (h : mayBlk l x = true) :
    Calls Try.prog 44 #[.agg #[.slice A0 0 c0, .slice Al l.length cl, .int .i64 x.f0, .int .i64 x.f1, .int .i64 x.f2, .int .i64 x.f3, .int .i64 x.f4, .string x.f5]] w fun e w' => e = .returned (.bool true) ∧ Below w.heap.size w w' := by
  have hu73 := Try.underlying73
  have hu24 := Try.underlying24
  obtain ⟨ho, hn, hx⟩ := mayBlk_parts h
  have hm : mayL l = true := by
    cases hm : mayL l with
    | true => rfl
    | false => rw [blk_no x hm] at h; exact absurd h (by simp)
  obtain ⟨K, hK⟩ := (ref_cycles l ho hn).rounds
  obtain ⟨hla, hls⟩ := cyc_len ho
  have hb2 := (endC_bd ho hn x).2.1
  have F1 : As_ (sched_Of.f 0 [] l x.f0 x.f1 x.f2 x.f3 x.f4 x.f5 = some (bunF l x, 0)) := ⟨by
    unfold sched_Of.f
    rw [if_pos ⟨rfl, by omega⟩, if_pos h]⟩
  have F2 : As_ (sched_Cycles.f 0 l = some ((cycF l).at_, (cycF l).sl, 0)) := ⟨by
    unfold sched_Cycles.f
    rw [if_pos (by omega), if_pos hm]⟩
  have F3 : As_ (r13_Cycles.f K l = some ((cycF l).at_, (cycF l).sl)) := ⟨hK⟩
  have F4 : As_ (r13_Block.f 0 [] l x.f0 x.f1 x.f2 x.f3 x.f4 x.f5 = some true) := ⟨by
    unfold r13_Block.f
    rw [if_pos ⟨rfl, by omega⟩]
    exact congrArg some h⟩
  have F5 : As_ (r13_Bundles.f 0 [] l x.f0 x.f1 x.f2 x.f3 x.f4 x.f5 = some (bunF l x)) := ⟨by
    unfold r13_Bundles.f
    rw [if_pos ⟨rfl, h⟩]⟩
  have F6 : As_ (r0_EqBundles.f 0 (bunF l x) (bunF l x) = some true) := ⟨by
    unfold r0_EqBundles.f
    rw [if_pos (by rw [bunF_len]; omega), eqBs_refl]
    simp⟩
  have F7 : As_ (r0_EqNumbers.f 2000000 (cycF l).at_ (cycF l).at_ = some true) := ⟨eqnums_eq _ (by omega) (by omega)⟩
  have F8 : As_ (r0_EqNumbers.f 2000000 (cycF l).sl (cycF l).sl = some true) := ⟨eqnums_eq _ (by omega) (by omega)⟩
  have F9 : As_ (w15_num.f 0 = some 0) := ⟨rfl⟩
  have HS : ∀ W : World, Kd.C Kd.string W A0 ([] : List ByteArray).length [] := fun W => ⟨rfl, by decide, fun h => absurd h (by decide)⟩
  have HS' := aM_ HS
  have HL := aM_ hl
  clear hl h ho hm hK hla hls hb2 HS
  generalize bunF l x = B at F1 F5 F6
  generalize (cycF l).at_ = va at F2 F3 F7
  generalize (cycF l).sl = vs at F2 F3 F8
  go_enter Try.func44, Try.ntmps44
  go_wp2_with (first | ((with_reducible refine gate_dst (N := 1) rfl ?_); refine bX_ (N := 1) (cs := #[.slice A0 0 c0, .slice Al l.length cl, .int .i64 x.f0, .int .i64 x.f1, .int .i64 x.f2, .int .i64 x.f3, .int .i64 x.f4, .string x.f5]) (t := 73) ?_; intro gb hgb w1 hbox hb; have P1 := aM_ (PRows.mk (x := x) hbox (Kd.C_below HL.out hb)); have B1 := aM_ hb; obtain ⟨z0, z1, z2, z3, z4, z5, z6, z7⟩ := P1.out.cells; clear hbox hb hgb HL) | (go_at_call 51; refine (sched_Of.calls 0 A0 c0 [] Al cl l x.f0 x.f1 x.f2 x.f3 x.f4 x.f5 B 0 _ (HS'.out _) (Nat.zero_le _) P1.out.l hcl F1.out).mono ?_; rintro e w2 ⟨v0, rfl, hR, hb⟩; obtain ⟨Ab, cb, rfl⟩ := Kd.R_slice hR; have P2 := aM_ (P1.out.below hb); have B2 := aM_ (B1.out.trans (hb.mono B1.out.size)); clear z0 z1 z2 z3 z4 z5 z6 z7 P1 B1 ; have CB2 := aM_ (Kd.R_reads' hR).2.2; have hcb := (Kd.R_reads' hR).2.1; clear hR; clear hb; obtain ⟨z0, z1, z2, z3, z4, z5, z6, z7⟩ := P2.out.cells) | (go_at_call 47; refine (sched_Cycles.calls 0 Al cl l va vs 0 _ P2.out.l hcl F2.out).mono ?_; rintro e w3 ⟨v0, v1, rfl, hA, hS, hb⟩; obtain ⟨Aa, ca, rfl⟩ := Kd.R_slice hA; obtain ⟨As, cs, rfl⟩ := Kd.R_slice hS; have P3 := aM_ (P2.out.below hb); have B3 := aM_ (B2.out.trans (hb.mono B2.out.size)); have CB3 := aM_ (Kd.C_below CB2.out hb); clear z0 z1 z2 z3 z4 z5 z6 z7 P2 B2 CB2; have CA3 := aM_ (Kd.R_reads' hA).2.2; have hca := (Kd.R_reads' hA).2.1; have CS3 := aM_ (Kd.R_reads' hS).2.2; have hcs := (Kd.R_reads' hS).2.1; clear hA hS; clear hb; obtain ⟨z0, z1, z2, z3, z4, z5, z6, z7⟩ := P3.out.cells) | (go_at_call 74; refine (r13_Cycles.calls K Al cl l va vs _ P3.out.l hcl F3.out).mono ?_; rintro e w4 ⟨v0, v1, rfl, hA, hS, hb⟩; obtain ⟨Aw, cw, rfl⟩ := Kd.R_slice hA; obtain ⟨Ap, cp, rfl⟩ := Kd.R_slice hS; have P4 := aM_ (P3.out.below hb); have B4 := aM_ (B3.out.trans (hb.mono B3.out.size)); have CB4 := aM_ (Kd.C_below CB3.out hb); have CA4 := aM_ (Kd.C_below CA3.out hb); have CS4 := aM_ (Kd.C_below CS3.out hb); clear z0 z1 z2 z3 z4 z5 z6 z7 P3 B3 CB3 CA3 CS3; have CW4 := aM_ (Kd.R_reads' hA).2.2; have hcw := (Kd.R_reads' hA).2.1; have CP4 := aM_ (Kd.R_reads' hS).2.2; have hcp := (Kd.R_reads' hS).2.1; clear hA hS; clear hb; obtain ⟨z0, z1, z2, z3, z4, z5, z6, z7⟩ := P4.out.cells) | (go_at_call 75; refine (r13_Block.calls 0 A0 c0 [] Al cl l x.f0 x.f1 x.f2 x.f3 x.f4 x.f5 true _ (HS'.out _) (Nat.zero_le _) P4.out.l hcl F4.out).mono ?_; rintro e w5 ⟨rfl, hb⟩; have P5 := aM_ (P4.out.below hb); have B5 := aM_ (B4.out.trans (hb.mono B4.out.size)); have CB5 := aM_ (Kd.C_below CB4.out hb); have CA5 := aM_ (Kd.C_below CA4.out hb); have CS5 := aM_ (Kd.C_below CS4.out hb); have CW5 := aM_ (Kd.C_below CW4.out hb); have CP5 := aM_ (Kd.C_below CP4.out hb); clear z0 z1 z2 z3 z4 z5 z6 z7 P4 B4 CB4 CA4 CS4 CW4 CP4; clear hb; obtain ⟨z0, z1, z2, z3, z4, z5, z6, z7⟩ := P5.out.cells) | (go_at_call 48; refine (w15_num.calls 0 0 w5 F9.out).mono ?_; rintro e w' ⟨rfl, ⟨nd, rfl⟩⟩; have hb := bN_ (Below.refl w5.heap.size w5) nd; generalize World.drewN w5 nd = w6 at hb ⊢; have P6 := aM_ (P5.out.below hb); have B6 := aM_ (B5.out.trans (hb.mono B5.out.size)); have CB6 := aM_ (Kd.C_below CB5.out hb); have CA6 := aM_ (Kd.C_below CA5.out hb); have CS6 := aM_ (Kd.C_below CS5.out hb); have CW6 := aM_ (Kd.C_below CW5.out hb); have CP6 := aM_ (Kd.C_below CP5.out hb); clear z0 z1 z2 z3 z4 z5 z6 z7 P5 B5 CB5 CA5 CS5 CW5 CP5; clear hb; obtain ⟨z0, z1, z2, z3, z4, z5, z6, z7⟩ := P6.out.cells) | (go_at_call 48; refine (w15_num.calls 0 0 w6 F9.out).mono ?_; rintro e w' ⟨rfl, ⟨nd, rfl⟩⟩; have hb := bN_ (Below.refl w6.heap.size w6) nd; generalize World.drewN w6 nd = w7 at hb ⊢; have P7 := aM_ (P6.out.below hb); have B7 := aM_ (B6.out.trans (hb.mono B6.out.size)); have CB7 := aM_ (Kd.C_below CB6.out hb); have CA7 := aM_ (Kd.C_below CA6.out hb); have CS7 := aM_ (Kd.C_below CS6.out hb); have CW7 := aM_ (Kd.C_below CW6.out hb); have CP7 := aM_ (Kd.C_below CP6.out hb); clear z0 z1 z2 z3 z4 z5 z6 z7 P6 B6 CB6 CA6 CS6 CW6 CP6; clear hb; obtain ⟨z0, z1, z2, z3, z4, z5, z6, z7⟩ := P7.out.cells) | (go_at_call 77; refine (r13_Bundles.calls 0 A0 c0 [] Al cl l x.f0 x.f1 x.f2 x.f3 x.f4 x.f5 B _ (HS'.out _) (Nat.zero_le _) P7.out.l hcl F5.out).mono ?_; rintro e w8 ⟨v0, rfl, hR, hb⟩; obtain ⟨Ac, cc, rfl⟩ := Kd.R_slice hR; have P8 := aM_ (P7.out.below hb); have B8 := aM_ (B7.out.trans (hb.mono B7.out.size)); have CB8 := aM_ (Kd.C_below CB7.out hb); have CA8 := aM_ (Kd.C_below CA7.out hb); have CS8 := aM_ (Kd.C_below CS7.out hb); have CW8 := aM_ (Kd.C_below CW7.out hb); have CP8 := aM_ (Kd.C_below CP7.out hb); clear z0 z1 z2 z3 z4 z5 z6 z7 P7 B7 CB7 CA7 CS7 CW7 CP7; have CC8 := aM_ (Kd.R_reads' hR).2.2; have hcc := (Kd.R_reads' hR).2.1; clear hR; clear hb; obtain ⟨z0, z1, z2, z3, z4, z5, z6, z7⟩ := P8.out.cells) | (go_at_call 76; refine (r0_EqBundles.calls 0 Ab cb B Ac cc B true _ CB8.out hcb CC8.out hcc F6.out).mono ?_; rintro e w' ⟨rfl, ⟨nd, rfl⟩⟩; have hb := bN_ (Below.refl w8.heap.size w8) nd; generalize World.drewN w8 nd = w9 at hb ⊢; have P9 := aM_ (P8.out.below hb); have B9 := aM_ (B8.out.trans (hb.mono B8.out.size)); have CB9 := aM_ (Kd.C_below CB8.out hb); have CA9 := aM_ (Kd.C_below CA8.out hb); have CS9 := aM_ (Kd.C_below CS8.out hb); have CW9 := aM_ (Kd.C_below CW8.out hb); have CP9 := aM_ (Kd.C_below CP8.out hb); have CC9 := aM_ (Kd.C_below CC8.out hb); clear z0 z1 z2 z3 z4 z5 z6 z7 P8 B8 CB8 CA8 CS8 CW8 CP8 CC8; clear hb; obtain ⟨z0, z1, z2, z3, z4, z5, z6, z7⟩ := P9.out.cells) | (go_at_call 24; refine (r0_EqNumbers.calls 2000000 Aa ca va Aw cw va true _ CA9.out hca CW9.out hcw F7.out).mono ?_; rintro e w' ⟨rfl, ⟨nd, rfl⟩⟩; have hb := bN_ (Below.refl w9.heap.size w9) nd; generalize World.drewN w9 nd = w10 at hb ⊢; have P10 := aM_ (P9.out.below hb); have B10 := aM_ (B9.out.trans (hb.mono B9.out.size)); have CB10 := aM_ (Kd.C_below CB9.out hb); have CA10 := aM_ (Kd.C_below CA9.out hb); have CS10 := aM_ (Kd.C_below CS9.out hb); have CW10 := aM_ (Kd.C_below CW9.out hb); have CP10 := aM_ (Kd.C_below CP9.out hb); have CC10 := aM_ (Kd.C_below CC9.out hb); clear z0 z1 z2 z3 z4 z5 z6 z7 P9 B9 CB9 CA9 CS9 CW9 CP9 CC9; clear hb; obtain ⟨z0, z1, z2, z3, z4, z5, z6, z7⟩ := P10.out.cells) | (go_at_call 24; refine (r0_EqNumbers.calls 2000000 As cs vs Ap cp vs true _ CS10.out hcs CP10.out hcp F8.out).mono ?_; rintro e w' ⟨rfl, ⟨nd, rfl⟩⟩; have hb := bN_ (Below.refl w10.heap.size w10) nd; generalize World.drewN w10 nd = w11 at hb ⊢; have P11 := aM_ (P10.out.below hb); have B11 := aM_ (B10.out.trans (hb.mono B10.out.size)); have CB11 := aM_ (Kd.C_below CB10.out hb); have CA11 := aM_ (Kd.C_below CA10.out hb); have CS11 := aM_ (Kd.C_below CS10.out hb); have CW11 := aM_ (Kd.C_below CW10.out hb); have CP11 := aM_ (Kd.C_below CP10.out hb); have CC11 := aM_ (Kd.C_below CC10.out hb); clear z0 z1 z2 z3 z4 z5 z6 z7 P10 B10 CB10 CA10 CS10 CW10 CP10 CC10; clear hb; obtain ⟨z0, z1, z2, z3, z4, z5, z6, z7⟩ := P11.out.cells))
  go_ret
  exact ⟨rfl, B11.out⟩
theorem w15_placed.calls (k : Nat) (A0_0 : Option Addr) (c0_0 : Nat) (l0_0 : List ByteArray) (A0_1 : Option Addr) (c0_1 : Nat) (l0_1 : List (S24)) (a0_2 : Int) (a0_3 : Int) (a0_4 : Int) (a0_5 : Int) (a0_6 : Int) (a0_7 : ByteArray) (r : Bool) (w : World) (hr0_0 : Kd.C Kd.string w A0_0 l0_0.length l0_0) (hc0_0 : l0_0.length ≤ c0_0) (hr0_1 : Kd.C k24 w A0_1 l0_1.length l0_1) (hc0_1 : l0_1.length ≤ c0_1) (h : w15_placed.f k l0_0 l0_1 a0_2 a0_3 a0_4 a0_5 a0_6 a0_7 = some r) :
    Calls Try.prog 44 #[.agg #[.slice A0_0 l0_0.length c0_0, .slice A0_1 l0_1.length c0_1, .int .i64 a0_2, .int .i64 a0_3, .int .i64 a0_4, .int .i64 a0_5, .int .i64 a0_6, .string a0_7]] w fun e w' => e = .returned (.bool r) ∧ Below w.heap.size w w' := by
  unfold w15_placed.f at h
  split at h
  · rename_i hg
    obtain ⟨hlb, hm⟩ := hg
    have hl0 : l0_0 = [] := by simpa using hlb
    subst hl0
    have h := Option.some.inj h
    subst h
    exact placed_walk A0_0 c0_0 A0_1 c0_1 l0_1 ⟨a0_2, a0_3, a0_4, a0_5, a0_6, a0_7⟩ w hr0_1 hc0_1 hm
  · exact absurd h (by simp)
end
section
attribute [local go_sem] max2_int min2_int max_two min_two max_three min_three max_four min_four
mutual
def w15_SchedMixed.l0 : Nat → List (S24) → Int → List (S24) → Int → Int → Int → Int → Int → ByteArray → List Int → List ByteArray → List (S140) → List (S73) → List (S81) → Option (Bool)
  | 0, _, _, _, _, _, _, _, _, _, _, _, _, _, _ => none
  | k + 1, x3, x4, x813a, x813b, x813c, x813d, x813e, x813f, x813g, x813h, x813i, x813j, x813010, x813011 => if x4 < (x813a.length : Int) then (w15_SchedMixed.j1 k x3 x4 (decide ((x3.length : Int) < 14)) x813a x813b x813c x813d x813e x813f x813g x813h x813i x813j x813010 x813011) else (w15_SchedMixed.j1 k x3 x4 false x813a x813b x813c x813d x813e x813f x813g x813h x813i x813j x813010 x813011)
def w15_SchedMixed.j1 : Nat → List (S24) → Int → Bool → List (S24) → Int → Int → Int → Int → Int → ByteArray → List Int → List ByteArray → List (S140) → List (S73) → List (S81) → Option (Bool)
  | 0, _, _, _, _, _, _, _, _, _, _, _, _, _, _, _ => none
  | k + 1, x3, x4, x19, x813a, x813b, x813c, x813d, x813e, x813f, x813g, x813h, x813i, x813j, x813010, x813011 => if x19 = true then (if 0 ≤ x4 then (if x4 ≤ (wrap64 (x4 + 1)) then (if (wrap64 (x4 + 1)) ≤ (x813a.length : Int) then ((r13_Straight.f k ((x813a.take ((wrap64 (x4 + 1)) : Int).toNat).drop (x4 : Int).toNat)).bind fun t818 => (if t818 = true then (if x4 < (x813a.length : Int) then (if x3.length < 2513169434916 then (w15_SchedMixed.l0 k (x3 ++ [(⟨(q24 x813a x4).f0, (q24 x813a x4).f1, (q24 x813a x4).f2, (q24 x813a x4).f3, (q24 x813a x4).f4, (q24 x813a x4).f5⟩ : S24)]) (wrap64 (x4 + 1)) x813a x813b x813c x813d x813e x813f x813g x813h x813i x813j x813010 x813011) else (none)) else (none)) else (w15_SchedMixed.l0 k x3 (wrap64 (x4 + 1)) x813a x813b x813c x813d x813e x813f x813g x813h x813i x813j x813010 x813011))) else (none)) else (none)) else (none)) else (w15_SchedMixed.l1 k x3 0)
def w15_SchedMixed.l1 : Nat → List (S24) → Int → Option (Bool)
  | 0, _, _ => none
  | k + 1, x3, x5 => if x5 < (x3.length : Int) then (if 0 ≤ x5 then (if x5 ≤ (x3.length : Int) then ((r0_CopyCodes.f k (x3.take (x5 : Int).toNat)).bind fun t828 => (if 0 ≤ (wrap64 (x5 + 1)) then (if (wrap64 (x5 + 1)) ≤ (x3.length : Int) then ((some (x3.drop ((wrap64 (x5 + 1)) : Int).toNat : List (S24))).bind fun y831 => (if t828.length + y831.length < 2513169434916 then ((some (t828 ++ y831 : List (S24))).bind fun y835 => ((w15_placed.f k ([] : List ByteArray) y835 33 0 0 0 0 (⟨#[]⟩ : ByteArray)).bind fun t838 => (if t838 = true then ((w15_placed.f k ([] : List ByteArray) y835 0 0 0 0 0 (⟨#[]⟩ : ByteArray)).bind fun t839 => (if t839 = true then (w15_SchedMixed.l1 k x3 (wrap64 (x5 + 1))) else (some false))) else (some false)))) else (none))) else (none)) else (none))) else (none)) else (none)) else ((w15_wakes.f k).bind fun t823 => (some t823))
end
def w15_SchedMixed.f (k : Nat) (l0_0 : List (S24)) (a0_1 : Int) (a0_2 : Int) (a0_3 : Int) (a0_4 : Int) (a0_5 : Int) (a0_6 : ByteArray) (l0_7 : List Int) (l0_8 : List ByteArray) (l0_9 : List (S140)) (l0_10 : List (S73)) (l0_11 : List (S81)) : Option (Bool) := (w15_Heavy.f k l0_0 a0_1 a0_2 a0_3 a0_4 a0_5 a0_6 l0_7 l0_8 l0_9 l0_10 l0_11).bind fun t813 => (if t813 = true then (some true) else (w15_SchedMixed.l0 k ([] : List (S24)) 0 l0_0 a0_1 a0_2 a0_3 a0_4 a0_5 a0_6 l0_7 l0_8 l0_9 l0_10 l0_11))
def w15_SchedMixed.T12 : Bool × List (List Nat × List Nat) := (true, [([], []), ([], []), ([0, 1], [0, 1]), ([2], [2]), ([], []), ([], []), ([5], [5]), ([4, 6], [4, 6]), ([3, 7, 3], [3, 7]), ([8, 8, 0, 1, 2, 3, 4, 5, 6, 7, 8], [8])])
def w15_SchedMixed.B12 : List Nat := [0, 0, 3, 7, 0, 0, 32, 112, 255, 511]
theorem w15_SchedMixed.tab12 : rtab .any (opsOf Try.f13 12) = w15_SchedMixed.T12 := by kernel_rfl
theorem w15_SchedMixed.bits12 : waitsOk w15_SchedMixed.T12.2 w15_SchedMixed.B12 = true := by kernel_rfl
theorem w15_SchedMixed.calls (k : Nat) (A0_0 : Option Addr) (c0_0 : Nat) (l0_0 : List (S24)) (a0_1 : Int) (a0_2 : Int) (a0_3 : Int) (a0_4 : Int) (a0_5 : Int) (a0_6 : ByteArray) (A0_7 : Option Addr) (c0_7 : Nat) (l0_7 : List Int) (A0_8 : Option Addr) (c0_8 : Nat) (l0_8 : List ByteArray) (A0_9 : Option Addr) (c0_9 : Nat) (l0_9 : List (S140)) (A0_10 : Option Addr) (c0_10 : Nat) (l0_10 : List (S73)) (A0_11 : Option Addr) (c0_11 : Nat) (l0_11 : List (S81)) (r : Bool) (w : World) (hr0_0 : Kd.C k24 w A0_0 l0_0.length l0_0) (hc0_0 : l0_0.length ≤ c0_0) (hr0_7 : Kd.C (Kd.int .i64) w A0_7 l0_7.length l0_7) (hc0_7 : l0_7.length ≤ c0_7) (hr0_8 : Kd.C Kd.string w A0_8 l0_8.length l0_8) (hc0_8 : l0_8.length ≤ c0_8) (hr0_9 : Kd.C k140 w A0_9 l0_9.length l0_9) (hc0_9 : l0_9.length ≤ c0_9) (hr0_10 : Kd.C k73 w A0_10 l0_10.length l0_10) (hc0_10 : l0_10.length ≤ c0_10) (hr0_11 : Kd.C k81 w A0_11 l0_11.length l0_11) (hc0_11 : l0_11.length ≤ c0_11) (h : w15_SchedMixed.f k l0_0 a0_1 a0_2 a0_3 a0_4 a0_5 a0_6 l0_7 l0_8 l0_9 l0_10 l0_11 = some r) :
    Calls Try.prog 13 #[.agg #[.slice A0_0 l0_0.length c0_0, .int .i64 a0_1, .int .i64 a0_2, .int .i64 a0_3, .int .i64 a0_4, .int .i64 a0_5, .string a0_6, .slice A0_7 l0_7.length c0_7, .slice A0_8 l0_8.length c0_8, .slice A0_9 l0_9.length c0_9, .slice A0_10 l0_10.length c0_10, .slice A0_11 l0_11.length c0_11]] w fun e w' => e = .returned (.bool r) ∧ Below w.heap.size w w' := by
 have hu67 := Try.underlying67
 have hu24 := Try.underlying24
 have hu73 := Try.underlying73
 have HR0_0 := aM_ hr0_0
 have HC0_0 := aM_ hc0_0
 clear hr0_0 hc0_0
 have HR0_7 := aM_ hr0_7
 have HC0_7 := aM_ hc0_7
 clear hr0_7 hc0_7
 have HR0_8 := aM_ hr0_8
 have HC0_8 := aM_ hc0_8
 clear hr0_8 hc0_8
 have HR0_9 := aM_ hr0_9
 have HC0_9 := aM_ hc0_9
 clear hr0_9 hc0_9
 have HR0_10 := aM_ hr0_10
 have HC0_10 := aM_ hc0_10
 clear hr0_10 hc0_10
 have HR0_11 := aM_ hr0_11
 have HC0_11 := aM_ hc0_11
 clear hr0_11 hc0_11
 have HB := aM_ (Below.refl w.heap.size w)
 have H : ((w15_Heavy.f k l0_0 a0_1 a0_2 a0_3 a0_4 a0_5 a0_6 l0_7 l0_8 l0_9 l0_10 l0_11).bind fun t813 => (if t813 = true then (some true) else (w15_SchedMixed.l0 k ([] : List (S24)) 0 l0_0 a0_1 a0_2 a0_3 a0_4 a0_5 a0_6 l0_7 l0_8 l0_9 l0_10 l0_11))) = some r := h
 clear h
 replace H := oB_ H
 obtain ⟨t813, A2, H⟩ := H
 by_cases c3 : t813 = true
 ·subst c3
  rw [if_pos rfl] at H
  obtain rfl := oI_ H
  go_enter Try.func13, Try.ntmps13
  go_wp2_with (first | ((with_reducible refine gate_dst (N := 1) rfl ?_); refine bX_ (N := 1) (cs := #[.slice A0_0 l0_0.length c0_0, .int .i64 a0_1, .int .i64 a0_2, .int .i64 a0_3, .int .i64 a0_4, .int .i64 a0_5, .string a0_6, .slice A0_7 l0_7.length c0_7, .slice A0_8 l0_8.length c0_8, .slice A0_9 l0_9.length c0_9, .slice A0_10 l0_10.length c0_10, .slice A0_11 l0_11.length c0_11]) (t := 67) ?_; intro gb812 hg w4 hbox hb; replace BK812 := aM_ (hbox); replace GW812 := aM_ (gE_ hg (bl_ HB)); replace GE812 := aM_ (gE_ hg (bl_ HB)); replace HB := aM_ (bT_ (bl_ HB) hb); clear hb hbox hg; obtain ⟨hcz5_0, hcz5_1, hcz5_2, hcz5_3, hcz5_4, hcz5_5, hcz5_6, hcz5_7, hcz5_8, hcz5_9, hcz5_10, hcz5_11⟩ := cl12_ BK812.out; obtain ⟨hfz5_0, hfz5_1, hfz5_2, hfz5_3, hfz5_4, hfz5_5, hfz5_6, hfz5_7, hfz5_8, hfz5_9, hfz5_10, hfz5_11⟩ := fz12_ BK812.out) | ((with_reducible refine gC_ (f := 49) rfl ?_); refine gL_ (some 8) Try.func49 #[.agg #[.slice A0_0 l0_0.length c0_0, .int .i64 a0_1, .int .i64 a0_2, .int .i64 a0_3, .int .i64 a0_4, .int .i64 a0_5, .string a0_6, .slice A0_7 l0_7.length c0_7, .slice A0_8 l0_8.length c0_8, .slice A0_9 l0_9.length c0_9, .slice A0_10 l0_10.length c0_10, .slice A0_11 l0_11.length c0_11]] rfl ?_; (with_reducible refine (w15_Heavy.calls k _ _ l0_0 a0_1 a0_2 a0_3 a0_4 a0_5 a0_6 _ _ l0_7 _ _ l0_8 _ _ l0_9 _ _ l0_10 _ _ l0_11 true _ ?side1 ?side2 ?side3 ?side4 ?side5 ?side6 ?side7 ?side8 ?side9 ?side10 ?side11 ?side12 A2.out).mono ?_); (case side1 => exact rC_ (Kd.C_below HR0_0.out HB.out)); (case side2 => exact HC0_0.out); (case side3 => exact rC_ (Kd.C_below HR0_7.out HB.out)); (case side4 => exact HC0_7.out); (case side5 => exact rC_ (Kd.C_below HR0_8.out HB.out)); (case side6 => exact HC0_8.out); (case side7 => exact rC_ (Kd.C_below HR0_9.out HB.out)); (case side8 => exact HC0_9.out); (case side9 => exact rC_ (Kd.C_below HR0_10.out HB.out)); (case side10 => exact HC0_10.out); (case side11 => exact rC_ (Kd.C_below HR0_11.out HB.out)); (case side12 => exact HC0_11.out); rintro e w6 ⟨rfl, hb⟩; refine ⟨_, rfl, ?_⟩; replace BK812 := aM_ (kB_ (rB_ BK812) hb); replace HB := aM_ (bT_ (bs_ HB GE812) hb)))
  go_ret
  exact ⟨eR_, bs_ HB GE812⟩
 replace c3 := eF_ c3
 subst c3
 rw [if_neg Bool.false_ne_true] at H
 replace H := aM_ H
 go_enter Try.func13, Try.ntmps13
 go_wp2_with (first | ((with_reducible refine gate_dst (N := 1) rfl ?_); refine bX_ (N := 1) (cs := #[.slice A0_0 l0_0.length c0_0, .int .i64 a0_1, .int .i64 a0_2, .int .i64 a0_3, .int .i64 a0_4, .int .i64 a0_5, .string a0_6, .slice A0_7 l0_7.length c0_7, .slice A0_8 l0_8.length c0_8, .slice A0_9 l0_9.length c0_9, .slice A0_10 l0_10.length c0_10, .slice A0_11 l0_11.length c0_11]) (t := 67) ?_; intro gb812 hg w7 hbox hb; replace BK812 := aM_ (hbox); replace GW812 := aM_ (gE_ hg (bl_ HB)); replace GE812 := aM_ (gE_ hg (bl_ HB)); replace HB := aM_ (bT_ (bl_ HB) hb); clear hb hbox hg; obtain ⟨hcz8_0, hcz8_1, hcz8_2, hcz8_3, hcz8_4, hcz8_5, hcz8_6, hcz8_7, hcz8_8, hcz8_9, hcz8_10, hcz8_11⟩ := cl12_ BK812.out; obtain ⟨hfz8_0, hfz8_1, hfz8_2, hfz8_3, hfz8_4, hfz8_5, hfz8_6, hfz8_7, hfz8_8, hfz8_9, hfz8_10, hfz8_11⟩ := fz12_ BK812.out) | ((with_reducible refine gC_ (f := 49) rfl ?_); refine gL_ (some 8) Try.func49 #[.agg #[.slice A0_0 l0_0.length c0_0, .int .i64 a0_1, .int .i64 a0_2, .int .i64 a0_3, .int .i64 a0_4, .int .i64 a0_5, .string a0_6, .slice A0_7 l0_7.length c0_7, .slice A0_8 l0_8.length c0_8, .slice A0_9 l0_9.length c0_9, .slice A0_10 l0_10.length c0_10, .slice A0_11 l0_11.length c0_11]] rfl ?_; (with_reducible refine (w15_Heavy.calls k _ _ l0_0 a0_1 a0_2 a0_3 a0_4 a0_5 a0_6 _ _ l0_7 _ _ l0_8 _ _ l0_9 _ _ l0_10 _ _ l0_11 false _ ?side1 ?side2 ?side3 ?side4 ?side5 ?side6 ?side7 ?side8 ?side9 ?side10 ?side11 ?side12 A2.out).mono ?_); (case side1 => exact rC_ (Kd.C_below HR0_0.out HB.out)); (case side2 => exact HC0_0.out); (case side3 => exact rC_ (Kd.C_below HR0_7.out HB.out)); (case side4 => exact HC0_7.out); (case side5 => exact rC_ (Kd.C_below HR0_8.out HB.out)); (case side6 => exact HC0_8.out); (case side7 => exact rC_ (Kd.C_below HR0_9.out HB.out)); (case side8 => exact HC0_9.out); (case side9 => exact rC_ (Kd.C_below HR0_10.out HB.out)); (case side10 => exact HC0_10.out); (case side11 => exact rC_ (Kd.C_below HR0_11.out HB.out)); (case side12 => exact HC0_11.out); rintro e w9 ⟨rfl, hb⟩; refine ⟨_, rfl, ?_⟩; replace BK812 := aM_ (kB_ (rB_ BK812) hb); replace HB := aM_ (bT_ (bs_ HB GE812) hb)))
 go_loopg [3, 4] k (fun kq v3 v4 w' => ∃ (x3_1 : List (S24)) (x4_1 : Int), v4 = .int .i64 x4_1 ∧ As_ (w15_SchedMixed.l0 kq x3_1 x4_1 l0_0 a0_1 a0_2 a0_3 a0_4 a0_5 a0_6 l0_7 l0_8 l0_9 l0_10 l0_11 = some r) ∧ As_ (kq ≤ k) ∧ As_ (Kd.R k24 24 w' w.heap.size (fun _ => True) v3 x3_1) ∧ As_ (w'.heap[gb812]? = some (.cells #[(.slice A0_0 l0_0.length c0_0), .int .i64 a0_1, .int .i64 a0_2, .int .i64 a0_3, .int .i64 a0_4, .int .i64 a0_5, .string a0_6, (.slice A0_7 l0_7.length c0_7), (.slice A0_8 l0_8.length c0_8), (.slice A0_9 l0_9.length c0_9), (.slice A0_10 l0_10.length c0_10), (.slice A0_11 l0_11.length c0_11)] 67 (0, 0))) ∧ As_ (Below w.heap.size w w'))
 case atStart => exact ⟨(([] : List (S24))), (0), eQ_, H, ⟨Nat.le_refl _⟩, ⟨by first | exact Kd.R_nil _ _ _ _ _ | exact Kd.N_nil _ _ _ _ _ | exact Kd.V_nil _ _ _ _ _ | exact Kd.Q_nil _ _ _ _ _ | exact Kd.S_nil _ _ _ _ _⟩, ⟨rB_ BK812⟩, ⟨bs_ HB GE812⟩⟩
 case round =>
  clear H
  obtain ⟨x3_1, x4_1, rfl, HA, HK1, HO_3, BK812, HB⟩ := hrel
  cases gk with
  | zero => exact absurd HA.out (by simp [w15_SchedMixed.l0])
  | succ k1 =>
   have H := HA.out
   clear HA
   simp only [w15_SchedMixed.l0] at H
   have HC10 := aM_ H
   clear H
   go_upto_region 5 with (fail)
   go_cut [19] (fun v19 wc => ∃ (kq : Nat) (x19_9 : Bool), v19 = .bool x19_9 ∧ As_ (w15_SchedMixed.j1 kq x3_1 x4_1 x19_9 l0_0 a0_1 a0_2 a0_3 a0_4 a0_5 a0_6 l0_7 l0_8 l0_9 l0_10 l0_11 = some r) ∧ As_ (kq ≤ k1) ∧ As_ (Kd.R k24 24 wc w.heap.size (fun _ => True) u3 x3_1) ∧ As_ (wc.heap[gb812]? = some (.cells #[(.slice A0_0 l0_0.length c0_0), .int .i64 a0_1, .int .i64 a0_2, .int .i64 a0_3, .int .i64 a0_4, .int .i64 a0_5, .string a0_6, (.slice A0_7 l0_7.length c0_7), (.slice A0_8 l0_8.length c0_8), (.slice A0_9 l0_9.length c0_9), (.slice A0_10 l0_10.length c0_10), (.slice A0_11 l0_11.length c0_11)] 67 (0, 0))) ∧ As_ (Below w.heap.size w wc))
   case first =>
    have H := HC10.out
    clear HC10
    by_cases c11 : x4_1 < (l0_0.length : Int)
    ·rw [if_pos c11] at H
     have c11b0 := dE_ c11
     clear c11
     (first | rw [c11b0] | (simp only [i64_w, i32_w]; rw [c11b0]) | skip)
     replace H := aM_ H
     obtain ⟨hcz12_0, hcz12_1, hcz12_2, hcz12_3, hcz12_4, hcz12_5, hcz12_6, hcz12_7, hcz12_8, hcz12_9, hcz12_10, hcz12_11⟩ := cl12_ BK812.out
     obtain ⟨hfz12_0, hfz12_1, hfz12_2, hfz12_3, hfz12_4, hfz12_5, hfz12_6, hfz12_7, hfz12_8, hfz12_9, hfz12_10, hfz12_11⟩ := fz12_ BK812.out
     obtain ⟨Ao13, co13, eo13⟩ := Kd.R_slice HO_3.out
     subst eo13
     go_wp2
     go_meet
     case rel => exact ⟨_, (decide ((x3_1.length : Int) < 14)), eQ_, H, ⟨by have := HK1.out; first | omega | exact Nat.le_refl _⟩, ⟨rR_ HO_3⟩, ⟨rB_ BK812⟩, ⟨bs_ HB GE812⟩⟩
    rw [if_neg c11] at H
    have c11b0 := dF_ c11
    clear c11
    (first | rw [c11b0] | (simp only [i64_w, i32_w]; rw [c11b0]) | skip)
    replace H := aM_ H
    obtain ⟨hcz14_0, hcz14_1, hcz14_2, hcz14_3, hcz14_4, hcz14_5, hcz14_6, hcz14_7, hcz14_8, hcz14_9, hcz14_10, hcz14_11⟩ := cl12_ BK812.out
    obtain ⟨hfz14_0, hfz14_1, hfz14_2, hfz14_3, hfz14_4, hfz14_5, hfz14_6, hfz14_7, hfz14_8, hfz14_9, hfz14_10, hfz14_11⟩ := fz12_ BK812.out
    go_wp2
    go_meet
    case rel => exact ⟨_, (false), eQ_, H, ⟨by have := HK1.out; first | omega | exact Nat.le_refl _⟩, ⟨rR_ HO_3⟩, ⟨rB_ BK812⟩, ⟨bs_ HB GE812⟩⟩
   case rest =>
    clear HC10
    obtain ⟨kq, x19_9, rfl, HA, HJ9, HO_3, BK812, HB⟩ := hcut
    cases kq with
    | zero => exact absurd HA.out (by simp [w15_SchedMixed.j1])
    | succ kj9 =>
     have H := HA.out
     clear HA
     simp only [w15_SchedMixed.j1] at H
     by_cases c15 : x19_9 = true
     ·subst c15
      rw [if_pos rfl] at H
      by_cases c16 : 0 ≤ x4_1
      ·rw [if_pos c16] at H
       have c16b0 := eq_true c16
       have c16b1 := dE_ c16
       clear c16
       by_cases c17 : x4_1 ≤ (wrap64 (x4_1 + 1))
       ·rw [if_pos c17] at H
        have c17b0 := eq_true c17
        have c17b1 := dE_ c17
        by_cases c18 : (wrap64 (x4_1 + 1)) ≤ (l0_0.length : Int)
        ·rw [if_pos c18] at H
         have c18b0 := eq_true c18
         have c18b1 := dE_ c18
         obtain ⟨y814, hy814⟩ : ∃ y_ : List (S24), y_ = ((l0_0.take ((wrap64 (x4_1 + 1)) : Int).toNat).drop (x4_1 : Int).toNat) := ⟨_, rfl⟩
         replace H : ((r13_Straight.f kj9 y814).bind fun t818 => (if t818 = true then (if x4_1 < (l0_0.length : Int) then (if x3_1.length < 2513169434916 then (w15_SchedMixed.l0 kj9 (x3_1 ++ [(⟨(q24 l0_0 x4_1).f0, (q24 l0_0 x4_1).f1, (q24 l0_0 x4_1).f2, (q24 l0_0 x4_1).f3, (q24 l0_0 x4_1).f4, (q24 l0_0 x4_1).f5⟩ : S24)]) (wrap64 (x4_1 + 1)) l0_0 a0_1 a0_2 a0_3 a0_4 a0_5 a0_6 l0_7 l0_8 l0_9 l0_10 l0_11) else (none)) else (none)) else (w15_SchedMixed.l0 kj9 x3_1 (wrap64 (x4_1 + 1)) l0_0 a0_1 a0_2 a0_3 a0_4 a0_5 a0_6 l0_7 l0_8 l0_9 l0_10 l0_11))) = some r := by first | (rw [hy814]; with_reducible exact H) | (have H2_ := (Option.bind_some _ _).symm.trans H; rw [hy814]; with_reducible exact H2_) | (have H2_ := (Option.bind_some _ _).symm.trans H; with_reducible exact H2_) | with_reducible exact H | (rw [hy814]; exact H) | exact H
         have Ny814 := aM_ hy814
         clear hy814
         replace H := oB_ H
         obtain ⟨t818, A19, H⟩ := H
         by_cases c20 : t818 = true
         ·subst c20
          rw [if_pos rfl] at H
          by_cases c21 : x4_1 < (l0_0.length : Int)
          ·rw [if_pos c21] at H
           have c21b0 := dE_ c21
           clear c21
           by_cases c22 : x3_1.length < 2513169434916
           ·rw [if_pos c22] at H
            have LMc22 := aM_ c22
            clear c22
            obtain ⟨y820, hy820⟩ : ∃ y_ : List (S24), y_ = (x3_1 ++ [(⟨(q24 l0_0 x4_1).f0, (q24 l0_0 x4_1).f1, (q24 l0_0 x4_1).f2, (q24 l0_0 x4_1).f3, (q24 l0_0 x4_1).f4, (q24 l0_0 x4_1).f5⟩ : S24)]) := ⟨_, rfl⟩
            replace H : (w15_SchedMixed.l0 kj9 y820 (wrap64 (x4_1 + 1)) l0_0 a0_1 a0_2 a0_3 a0_4 a0_5 a0_6 l0_7 l0_8 l0_9 l0_10 l0_11) = some r := by first | (rw [hy820]; with_reducible exact H) | (have H2_ := (Option.bind_some _ _).symm.trans H; rw [hy820]; with_reducible exact H2_) | (have H2_ := (Option.bind_some _ _).symm.trans H; with_reducible exact H2_) | with_reducible exact H | (rw [hy820]; exact H) | exact H
            have Ny820 := aM_ hy820
            clear hy820
            replace H := aM_ H
            obtain ⟨hcz23_0, hcz23_1, hcz23_2, hcz23_3, hcz23_4, hcz23_5, hcz23_6, hcz23_7, hcz23_8, hcz23_9, hcz23_10, hcz23_11⟩ := cl12_ BK812.out
            obtain ⟨hfz23_0, hfz23_1, hfz23_2, hfz23_3, hfz23_4, hfz23_5, hfz23_6, hfz23_7, hfz23_8, hfz23_9, hfz23_10, hfz23_11⟩ := fz12_ BK812.out
            have qq24 : ((wrap64 (x4_1 + 1)) : Int) ≤ ((l0_0.length : Int) : Int) := oD_
            obtain ⟨i024, hi024, _, hsz24, _⟩ := info_parts info24
            have hroom24 : l0_0.length ≤ c0_0 := HC0_0.out
            have hC24 : Kd.C k24 _ A0_0 l0_0.length l0_0 := HR0_0.out
            have ql24 : (x4_1 : Int) ≤ ((wrap64 (x4_1 + 1)) : Int) := oD_
            have q024 : (0 : Int) ≤ (x4_1 : Int) := oD_
            have hcut24 := cut_mid (P := Try.prog) 22 24 .i64 .i64 Try.underlying22 hi024 6 hsz24 A0_0 l0_0.length c0_0 x4_1 (wrap64 (x4_1 + 1)) q024 ql24 qq24 hroom24
            have hr24 := Kd.C_mid (lo := (x4_1 : Int).toNat) (hi := ((wrap64 (x4_1 + 1)) : Int).toNat) (c := c0_0) hC24 (by omega) (by omega) hroom24
            obtain ⟨A24, hA24⟩ : ∃ A1, A1 = (if c0_0 = (x4_1 : Int).toNat then A0_0 else (A0_0 : Option Addr).map (·.add ((x4_1 : Int).toNat * 6))) := ⟨_, rfl⟩
            obtain ⟨c24, hc24⟩ : ∃ c1, c1 = c0_0 - (x4_1 : Int).toNat := ⟨_, rfl⟩
            have hy24 : y814.length = ((wrap64 (x4_1 + 1)) : Int).toNat - (x4_1 : Int).toNat := (by rw [Ny814.out, List.length_drop, List.length_take] <;> omega)
            rw [show ((l0_0).take ((wrap64 (x4_1 + 1)) : Int).toNat).drop (x4_1 : Int).toNat = y814 from Ny814.out.symm] at hr24
            replace hr24 : Kd.C k24 _ A24 y814.length y814 := (by rw [hA24]; exact hr24)
            rw [← hy24, ← hA24, ← hc24] at hcut24
            have HR817 := aM_ hr24
            have HC817 := aM_ (show y814.length ≤ c24 from by rw [hy24, hc24]; exact Nat.sub_le_sub_right (Nat.le_trans (by omega) hroom24) _)
            clear hr24 hC24 hroom24 hi024 hsz24 hc24
            have KY24 := aM_ hy24
            have KA24 := aM_ hA24
            clear hy24 hA24
            replace qq24 := eq_true qq24
            go_wp2_with (first | ((with_reducible refine gC_ (f := 32) rfl ?_); refine gL_ (some 29) Try.func32 #[.slice A24 y814.length c24] rfl ?_; (with_reducible refine (r13_Straight.calls kj9 _ _ y814 true _ ?side1 ?side2 A19.out).mono ?_); (case side1 => exact rC_ (Kd.C_below HR817.out HB.out)); (case side2 => exact HC817.out); rintro e w25 ⟨rfl, hb⟩; refine ⟨_, rfl, ?_⟩; replace HO_3 := aM_ (Kd.R_below (rR_ HO_3) hb); replace BK812 := aM_ (kB_ (rB_ BK812) hb); replace HB := aM_ (bT_ (bs_ HB GE812) hb); obtain ⟨hcz26_0, hcz26_1, hcz26_2, hcz26_3, hcz26_4, hcz26_5, hcz26_6, hcz26_7, hcz26_8, hcz26_9, hcz26_10, hcz26_11⟩ := cl12_ BK812.out; obtain ⟨hfz26_0, hfz26_1, hfz26_2, hfz26_3, hfz26_4, hfz26_5, hfz26_6, hfz26_7, hfz26_8, hfz26_9, hfz26_10, hfz26_11⟩ := fz12_ BK812.out; have p819 : 0 ≤ (x4_1 : Int) := oD_; have q819 : x4_1 < (l0_0.length : Int) := oD_; obtain ⟨ad819, e819, hx819_0, hx819_1, hx819_2, hx819_3, hx819_4, hx819_5⟩ := at_T24 HR0_0.out x4_1 p819 q819; cases e819; replace hx819_0 := hC_ HB hx819_0; replace hx819_1 := hC_ HB hx819_1; replace hx819_2 := hC_ HB hx819_2; replace hx819_3 := hC_ HB hx819_3; replace hx819_4 := hC_ HB hx819_4; replace hx819_5 := hC_ HB hx819_5; replace p819 := eq_true p819; replace q819 := eq_true q819) | ((with_reducible refine gate_builtin (b := .append) (xs := #[.tmp 30, .tmp 37]) rfl ?_); at_builtin; refine Kd.R_append k24 (w0 := w) w.heap.size rfl (.tmp 30) (.tmp 37) 22 24 (.agg #[(.int .i64 0), (.int .i64 0), (.int .i64 0), (.int .i64 0), (.int .i64 0), (.string ⟨#[]⟩)]) 56 rfl Try.underlying22 info24 rfl (by decide) (by omega) u3 x3_1 (⟨(q24 l0_0 x4_1).f0, (q24 l0_0 x4_1).f1, (q24 l0_0 x4_1).f2, (q24 l0_0 x4_1).f3, (q24 l0_0 x4_1).f4, (q24 l0_0 x4_1).f5⟩ : S24) [.int .i64 ((q24 l0_0 x4_1).f0), .int .i64 ((q24 l0_0 x4_1).f1), .int .i64 ((q24 l0_0 x4_1).f2), .int .i64 ((q24 l0_0 x4_1).f3), .int .i64 ((q24 l0_0 x4_1).f4), .string ((q24 l0_0 x4_1).f5)] (fun _ => True) (fun _ => False) rfl rfl ?aP (fun _ hk => hk.elim) ?aF ?aO ?aB ?aS ?aL ?_; (case aP => exact k24_mkM _ _ _ (⟨(q24 l0_0 x4_1).f0, (q24 l0_0 x4_1).f1, (q24 l0_0 x4_1).f2, (q24 l0_0 x4_1).f3, (q24 l0_0 x4_1).f4, (q24 l0_0 x4_1).f5⟩ : S24)); (case aB => exact (bs_ HB GE812)); (case aF => exact (fun _ _ => trivial)); (case aO => exact (rR_ HO_3)); (case aS => exact (bY_ (bs_ HB GE812))); (case aL => have := LMc22.out; omega); intro v821 w27 ho hb hg hat; rw [← Ny820.out] at ho; replace BK812 := aM_ (blk_grown (g := gb812) (o := .cells #[.slice (some ad819) l0_0.length c0_0, .int .i64 a0_1, .int .i64 a0_2, .int .i64 a0_3, .int .i64 a0_4, .int .i64 a0_5, .string a0_6, .slice A0_7 l0_7.length c0_7, .slice A0_8 l0_8.length c0_8, .slice A0_9 l0_9.length c0_9, .slice A0_10 l0_10.length c0_10, .slice A0_11 l0_11.length c0_11] 67 (0, 0)) (rB_ BK812) hg (Kd.R_ne HO_3.out BK812.out (by decide))); replace HB := aM_ (hb); replace HO822 := aM_ (ho); clear HO_3; clear ho hb hg hat))
            go_roundg kj9
            case measure => have := HK1.out; have := HJ9.out; omega
            case rel => exact ⟨(y820), (wrap64 (x4_1 + 1)), eQ_, H, ⟨by have := HK1.out; have := HJ9.out; omega⟩, ⟨rR_ HO822⟩, ⟨rB_ BK812⟩, ⟨bs_ HB GE812⟩⟩
           rw [if_neg c22] at H
           exact absurd H (by simp)
          rw [if_neg c21] at H
          exact absurd H (by simp)
         replace c20 := eF_ c20
         subst c20
         rw [if_neg Bool.false_ne_true] at H
         replace H := aM_ H
         obtain ⟨hcz28_0, hcz28_1, hcz28_2, hcz28_3, hcz28_4, hcz28_5, hcz28_6, hcz28_7, hcz28_8, hcz28_9, hcz28_10, hcz28_11⟩ := cl12_ BK812.out
         obtain ⟨hfz28_0, hfz28_1, hfz28_2, hfz28_3, hfz28_4, hfz28_5, hfz28_6, hfz28_7, hfz28_8, hfz28_9, hfz28_10, hfz28_11⟩ := fz12_ BK812.out
         have q29 : ((wrap64 (x4_1 + 1)) : Int) ≤ ((l0_0.length : Int) : Int) := oD_
         obtain ⟨i029, hi029, _, hsz29, _⟩ := info_parts info24
         have hroom29 : l0_0.length ≤ c0_0 := HC0_0.out
         have hC29 : Kd.C k24 _ A0_0 l0_0.length l0_0 := HR0_0.out
         have ql29 : (x4_1 : Int) ≤ ((wrap64 (x4_1 + 1)) : Int) := oD_
         have q029 : (0 : Int) ≤ (x4_1 : Int) := oD_
         have hcut29 := cut_mid (P := Try.prog) 22 24 .i64 .i64 Try.underlying22 hi029 6 hsz29 A0_0 l0_0.length c0_0 x4_1 (wrap64 (x4_1 + 1)) q029 ql29 q29 hroom29
         have hr29 := Kd.C_mid (lo := (x4_1 : Int).toNat) (hi := ((wrap64 (x4_1 + 1)) : Int).toNat) (c := c0_0) hC29 (by omega) (by omega) hroom29
         obtain ⟨A29, hA29⟩ : ∃ A1, A1 = (if c0_0 = (x4_1 : Int).toNat then A0_0 else (A0_0 : Option Addr).map (·.add ((x4_1 : Int).toNat * 6))) := ⟨_, rfl⟩
         obtain ⟨c29, hc29⟩ : ∃ c1, c1 = c0_0 - (x4_1 : Int).toNat := ⟨_, rfl⟩
         have hy29 : y814.length = ((wrap64 (x4_1 + 1)) : Int).toNat - (x4_1 : Int).toNat := (by rw [Ny814.out, List.length_drop, List.length_take] <;> omega)
         rw [show ((l0_0).take ((wrap64 (x4_1 + 1)) : Int).toNat).drop (x4_1 : Int).toNat = y814 from Ny814.out.symm] at hr29
         replace hr29 : Kd.C k24 _ A29 y814.length y814 := (by rw [hA29]; exact hr29)
         rw [← hy29, ← hA29, ← hc29] at hcut29
         have HR817 := aM_ hr29
         have HC817 := aM_ (show y814.length ≤ c29 from by rw [hy29, hc29]; exact Nat.sub_le_sub_right (Nat.le_trans (by omega) hroom29) _)
         clear hr29 hC29 hroom29 hi029 hsz29 hc29
         have KY29 := aM_ hy29
         have KA29 := aM_ hA29
         clear hy29 hA29
         replace q29 := eq_true q29
         go_wp2_with (first | ((with_reducible refine gC_ (f := 32) rfl ?_); refine gL_ (some 29) Try.func32 #[.slice A29 y814.length c29] rfl ?_; (with_reducible refine (r13_Straight.calls kj9 _ _ y814 false _ ?side1 ?side2 A19.out).mono ?_); (case side1 => exact rC_ (Kd.C_below HR817.out HB.out)); (case side2 => exact HC817.out); rintro e w30 ⟨rfl, hb⟩; refine ⟨_, rfl, ?_⟩; replace HO_3 := aM_ (Kd.R_below (rR_ HO_3) hb); replace BK812 := aM_ (kB_ (rB_ BK812) hb); replace HB := aM_ (bT_ (bs_ HB GE812) hb)))
         go_roundg kj9
         case measure => have := HK1.out; have := HJ9.out; omega
         case rel => exact ⟨(x3_1), (wrap64 (x4_1 + 1)), eQ_, H, ⟨by have := HK1.out; have := HJ9.out; omega⟩, ⟨rR_ HO_3⟩, ⟨rB_ BK812⟩, ⟨bs_ HB GE812⟩⟩
        rw [if_neg c18] at H
        exact absurd H (by simp)
       rw [if_neg c17] at H
       exact absurd H (by simp)
      rw [if_neg c16] at H
      exact absurd H (by simp)
     replace c15 := eF_ c15
     subst c15
     rw [if_neg Bool.false_ne_true] at H
     replace H := aM_ H
     go_wp2
     go_loopg [5] kj9 (fun kq v5 w' => ∃ (x5_3 : Int), v5 = .int .i64 x5_3 ∧ As_ (w15_SchedMixed.l1 kq x3_1 x5_3 = some r) ∧ As_ (kq ≤ kj9) ∧ As_ (Kd.R k24 24 w' w.heap.size (fun _ => True) u3 x3_1) ∧ As_ (w'.heap[gb812]? = some (.cells #[(.slice A0_0 l0_0.length c0_0), .int .i64 a0_1, .int .i64 a0_2, .int .i64 a0_3, .int .i64 a0_4, .int .i64 a0_5, .string a0_6, (.slice A0_7 l0_7.length c0_7), (.slice A0_8 l0_8.length c0_8), (.slice A0_9 l0_9.length c0_9), (.slice A0_10 l0_10.length c0_10), (.slice A0_11 l0_11.length c0_11)] 67 (0, 0))) ∧ As_ (Below w.heap.size w w'))
     case atStart => exact ⟨(0), eQ_, H, ⟨Nat.le_refl _⟩, ⟨rR_ HO_3⟩, ⟨rB_ BK812⟩, ⟨bs_ HB GE812⟩⟩
     case round =>
      clear H
      obtain ⟨x5_3, rfl, HA, HK3, HO_3, BK812, HB⟩ := hrel
      cases gk with
      | zero => exact absurd HA.out (by simp [w15_SchedMixed.l1])
      | succ k3 =>
       have H := HA.out
       clear HA
       simp only [w15_SchedMixed.l1] at H
       by_cases c31 : x5_3 < (x3_1.length : Int)
       ·rw [if_pos c31] at H
        have c31b0 := dE_ c31
        clear c31
        by_cases c32 : 0 ≤ x5_3
        ·rw [if_pos c32] at H
         have c32b0 := eq_true c32
         have c32b1 := dE_ c32
         clear c32
         by_cases c33 : x5_3 ≤ (x3_1.length : Int)
         ·rw [if_pos c33] at H
          have c33b0 := eq_true c33
          have c33b1 := dE_ c33
          clear c33
          obtain ⟨y824, hy824⟩ : ∃ y_ : List (S24), y_ = (x3_1.take (x5_3 : Int).toNat) := ⟨_, rfl⟩
          replace H : ((r0_CopyCodes.f k3 y824).bind fun t828 => (if 0 ≤ (wrap64 (x5_3 + 1)) then (if (wrap64 (x5_3 + 1)) ≤ (x3_1.length : Int) then ((some (x3_1.drop ((wrap64 (x5_3 + 1)) : Int).toNat : List (S24))).bind fun y831 => (if t828.length + y831.length < 2513169434916 then ((some (t828 ++ y831 : List (S24))).bind fun y835 => ((w15_placed.f k3 ([] : List ByteArray) y835 33 0 0 0 0 (⟨#[]⟩ : ByteArray)).bind fun t838 => (if t838 = true then ((w15_placed.f k3 ([] : List ByteArray) y835 0 0 0 0 0 (⟨#[]⟩ : ByteArray)).bind fun t839 => (if t839 = true then (w15_SchedMixed.l1 k3 x3_1 (wrap64 (x5_3 + 1))) else (some false))) else (some false)))) else (none))) else (none)) else (none))) = some r := by first | (rw [hy824]; with_reducible exact H) | (have H2_ := (Option.bind_some _ _).symm.trans H; rw [hy824]; with_reducible exact H2_) | (have H2_ := (Option.bind_some _ _).symm.trans H; with_reducible exact H2_) | with_reducible exact H | (rw [hy824]; exact H) | exact H
          have Ny824 := aM_ hy824
          clear hy824
          replace H := oB_ H
          obtain ⟨t828, A34, H⟩ := H
          obtain ⟨ji35, hji35⟩ : ∃ j_ : Int, (wrap64 (x5_3 + 1)) = j_ := ⟨_, rfl⟩
          replace H : (if 0 ≤ (ji35) then (if (ji35) ≤ (x3_1.length : Int) then ((some (x3_1.drop ((ji35) : Int).toNat : List (S24))).bind fun y831 => (if t828.length + y831.length < 2513169434916 then ((some (t828 ++ y831 : List (S24))).bind fun y835 => ((w15_placed.f k3 ([] : List ByteArray) y835 33 0 0 0 0 (⟨#[]⟩ : ByteArray)).bind fun t838 => (if t838 = true then ((w15_placed.f k3 ([] : List ByteArray) y835 0 0 0 0 0 (⟨#[]⟩ : ByteArray)).bind fun t839 => (if t839 = true then (w15_SchedMixed.l1 k3 x3_1 ji35) else (some false))) else (some false)))) else (none))) else (none)) else (none)) = some r := by first | (rw [hji35] at H; exact H) | (simp only [hji35] at H ⊢; exact H)
          (try rw [hji35] at A34)
          have hji35w : (IntKind.i64.wrap (x5_3 + 1)) = ji35 := (i64_w _).trans hji35
          by_cases c36 : 0 ≤ (ji35)
          ·rw [if_pos c36] at H
           have c36b0 := eq_true c36
           have c36b1 := dE_ c36
           clear c36
           by_cases c37 : (ji35) ≤ (x3_1.length : Int)
           ·rw [if_pos c37] at H
            have c37b0 := eq_true c37
            have c37b1 := dE_ c37
            clear c37
            obtain ⟨y831, hy831⟩ : ∃ y_ : List (S24), y_ = (x3_1.drop ((ji35) : Int).toNat) := ⟨_, rfl⟩
            replace H : (if t828.length + y831.length < 2513169434916 then ((some (t828 ++ y831 : List (S24))).bind fun y835 => ((w15_placed.f k3 ([] : List ByteArray) y835 33 0 0 0 0 (⟨#[]⟩ : ByteArray)).bind fun t838 => (if t838 = true then ((w15_placed.f k3 ([] : List ByteArray) y835 0 0 0 0 0 (⟨#[]⟩ : ByteArray)).bind fun t839 => (if t839 = true then (w15_SchedMixed.l1 k3 x3_1 ji35) else (some false))) else (some false)))) else (none)) = some r := by first | (rw [hy831]; with_reducible exact H) | (have H2_ := (Option.bind_some _ _).symm.trans H; rw [hy831]; with_reducible exact H2_) | (have H2_ := (Option.bind_some _ _).symm.trans H; with_reducible exact H2_) | with_reducible exact H | (rw [hy831]; exact H) | exact H
            have Ny831 := aM_ hy831
            clear hy831
            by_cases c38 : t828.length + y831.length < 2513169434916
            ·rw [if_pos c38] at H
             have LMc38 := aM_ c38
             clear c38
             obtain ⟨y835, hy835⟩ : ∃ y_ : List (S24), y_ = (t828 ++ y831) := ⟨_, rfl⟩
             replace H : ((w15_placed.f k3 ([] : List ByteArray) y835 33 0 0 0 0 (⟨#[]⟩ : ByteArray)).bind fun t838 => (if t838 = true then ((w15_placed.f k3 ([] : List ByteArray) y835 0 0 0 0 0 (⟨#[]⟩ : ByteArray)).bind fun t839 => (if t839 = true then (w15_SchedMixed.l1 k3 x3_1 ji35) else (some false))) else (some false))) = some r := by first | (rw [hy835]; with_reducible exact H) | (have H2_ := (Option.bind_some _ _).symm.trans H; rw [hy835]; with_reducible exact H2_) | (have H2_ := (Option.bind_some _ _).symm.trans H; with_reducible exact H2_) | with_reducible exact H | (rw [hy835]; exact H) | exact H
             have Ny835 := aM_ hy835
             clear hy835
             replace H := oB_ H
             obtain ⟨t838, A39, H⟩ := H
             by_cases c40 : t838 = true
             ·subst c40
              rw [if_pos rfl] at H
              replace H := oB_ H
              obtain ⟨t839, A41, H⟩ := H
              by_cases c42 : t839 = true
              ·subst c42
               rw [if_pos rfl] at H
               replace H := aM_ H
               obtain ⟨Ao43, co43, eo43⟩ := Kd.R_slice HO_3.out
               subst eo43
               try go_wp2
               replace HO_3 := aM_ (Kd.R_drew HO_3.out)
               replace BK812 := aM_ (kD_ BK812.out)
               replace HB := aM_ (b1_ HB.out)
               have q45 : (x5_3 : Int) ≤ ((x3_1.length : Int) : Int) := oD_
               obtain ⟨i045, hi045, _, hsz45, _⟩ := info_parts info24
               have hroom45 : x3_1.length ≤ co43 := (Kd.R_reads' HO_3.out).2.1
               have hC45 : Kd.C k24 _ Ao43 x3_1.length x3_1 := (Kd.R_reads' HO_3.out).2.2
               have hcut45 := cut_to (P := Try.prog) 22 24 .i64 Try.underlying22 hi045 Ao43 x3_1.length co43 x5_3 (oD_) q45 hroom45
               have hr45 := Kd.C_take (m := (x5_3 : Int).toNat) hC45 (by omega)
               have hy45 : y824.length = (x5_3 : Int).toNat := (by rw [Ny824.out, List.length_take]; omega)
               rw [← Ny824.out] at hr45
               rw [← hy45] at hcut45
               have HR827 := aM_ hr45
               have HC827 := aM_ (show y824.length ≤ co43 from by omega)
               clear hr45 hC45 hroom45 hi045 hsz45
               have KY45 := aM_ hy45
               clear hy45
               have KL45 := aM_ (show (x5_3 : Int).toNat ≤ x3_1.length from by omega)
               replace q45 := eq_true q45
               have q46 : ((ji35) : Int) ≤ ((x3_1.length : Int) : Int) := oD_
               obtain ⟨i046, hi046, _, hsz46, _⟩ := info_parts info24
               have hroom46 : x3_1.length ≤ co43 := (Kd.R_reads' HO_3.out).2.1
               have hC46 : Kd.C k24 _ Ao43 x3_1.length x3_1 := (Kd.R_reads' HO_3.out).2.2
               have q046 : (0 : Int) ≤ ((ji35) : Int) := oD_
               have hcut46 := cut_from (P := Try.prog) 22 24 .i64 Try.underlying22 hi046 6 hsz46 Ao43 x3_1.length co43 (ji35) q046 q46
               have hr46 := Kd.C_drop (m := ((ji35) : Int).toNat) (c := co43) hC46 (by omega) hroom46
               obtain ⟨A46, hA46⟩ : ∃ A1, A1 = (if co43 = ((ji35) : Int).toNat then Ao43 else (Ao43 : Option Addr).map (·.add (((ji35) : Int).toNat * 6))) := ⟨_, rfl⟩
               obtain ⟨c46, hc46⟩ : ∃ c1, c1 = co43 - ((ji35) : Int).toNat := ⟨_, rfl⟩
               have hy46 : y831.length = x3_1.length - ((ji35) : Int).toNat := (by rw [Ny831.out, List.length_drop] <;> omega)
               rw [show (x3_1).drop ((ji35) : Int).toNat = y831 from Ny831.out.symm] at hr46
               replace hr46 : Kd.C k24 _ A46 y831.length y831 := (by rw [hA46]; exact hr46)
               rw [← hy46, ← hA46, ← hc46] at hcut46
               have HR834 := aM_ hr46
               have HC834 := aM_ (show y831.length ≤ c46 from by rw [hy46, hc46]; exact Nat.sub_le_sub_right hroom46 _)
               clear hr46 hC46 hroom46 hi046 hsz46 hc46
               have KY46 := aM_ hy46
               have KA46 := aM_ hA46
               clear hy46 hA46
               have KL46 := aM_ (show ((ji35) : Int).toNat ≤ x3_1.length from by omega)
               replace q46 := eq_true q46
               refine start_ (n := 10) (S := fun w' => True) (ds := []) #[false, false, false, false, false, false, false, false, false, false] (by kernel_rfl) rfl (by kernel_rfl) trivial (fun hHeld => ?_); refine with_tabW w15_SchedMixed.tab12 w15_SchedMixed.bits12 (fun HT_ HW_ => ?_)
               generalize wr.drew = w44 at HO_3 BK812 HB HR827 HR834 hHeld ⊢
               refine seq_ (k := 3) [(0, some 45, false), (1, some 46, false), (2, some 47, false), (4, some 49, false), (5, some 50, false), (6, some 51, false), (7, some 52, false)] #[true, true, true, false, true, true, true, true, false, false] rfl (seq_of HT_.out HW_.out (by kernel_rfl)) (fun _ _ _ _ _ h => h) hHeld ?_
               repeat (first | (refine SeqOn.pure (v := ?_) (a' := ?_) rfl rfl (Or.inl ⟨by kernel_rfl, ?_⟩) ?_ ?_; rotate_left 2; (focus (intro w'; go_simp; with_reducible rfl)); (focus exact pU_)))
               refine SeqOn.nil ?_
               refine one_ (i := 3) (N := some 48) #[true, true, true, true, true, true, true, true, false, false] rfl rfl (one_of HT_.out (by kernel_rfl)) (by decide) (fun K hK => ?_)
               refine gO_ Try.func30 #[.slice Ao43 y824.length co43] rfl ?_
               with_reducible refine (r0_CopyCodes.calls k3 _ _ y824 t828 _ ?side1 ?side2 A34.out).mono ?_
               (case side1 => repeat (first | exact (by repeat (first | (with_reducible exact HR827.out) | (with_reducible refine Kd.C_alloc ?_ _) | (with_reducible refine Kd.C_drewN ?_ _) | (with_reducible refine Kd.C_drew ?_) | exact HR827.out)) | (with_reducible refine Kd.C_alloc ?_ _) | (with_reducible refine Kd.C_drewN ?_ _) | (with_reducible refine Kd.C_drew ?_)))
               (case side2 => exact HC827.out)
               rintro e w47 ⟨v829, rfl, ho0, hb⟩
               refine ⟨_, rfl, ?_⟩
               replace HO830 := aM_ (Kd.R_lower (Kd.R_new' ho0 (Kd.R_lt (rR_ HO_3))) (bY_ (bs_ HB GE812)))
               replace HO_3 := aM_ (Kd.R_elder' (rR_ HO_3) (Kd.R_base ho0) hb)
               replace BK812 := aM_ (kB_ (rB_ BK812) hb)
               replace HR827 := aM_ (Kd.C_below (by repeat (first | (with_reducible exact HR827.out) | (with_reducible refine Kd.C_alloc ?_ _) | (with_reducible refine Kd.C_drewN ?_ _) | (with_reducible refine Kd.C_drew ?_) | exact HR827.out)) hb)
               replace HR834 := aM_ (Kd.C_below (by repeat (first | (with_reducible exact HR834.out) | (with_reducible refine Kd.C_alloc ?_ _) | (with_reducible refine Kd.C_drewN ?_ _) | (with_reducible refine Kd.C_drew ?_) | exact HR834.out)) hb)
               replace HB := aM_ (bT_ (bs_ HB GE812) hb)
               refine hK.out _ _ trivial (fun hHeld => ?_)
               clear hK K
               refine norm_ (a' := ?_) ?_ ?_
               rotate_left
               ·show Act.put _ (some 48) _ = _
                simp only [Act.put, List.setIfInBounds_toArray, List.set_cons_zero, List.set_cons_succ, i64_w, i32_w]
                rfl
               refine one_ (i := 8) (N := some 53) #[true, true, true, true, true, true, true, true, true, false] rfl rfl (one_of HT_.out (by kernel_rfl)) (by decide) (fun K hK => ?_)
               refine Kd.R_append_rows_step k24 (w0 := w) w.heap.size (by rfl) (.tmp 48) (.tmp 52) 22 24 (.agg #[(.int .i64 0), (.int .i64 0), (.int .i64 0), (.int .i64 0), (.int .i64 0), (.string ⟨#[]⟩)]) 56 rfl Try.underlying22 info24 rfl (by decide) (by omega) v829 t828 y831 _ _ _ (fun k_ => some k_ ≠ (.slice Ao43 x3_1.length co43 : Value).ownBlock) (fun _ => False) rfl rfl ?aO ?aR (fun _ _ h => h) (fun _ h => h.elim) ?aF ?aB ?aS ?aL ?_
               (case aR => repeat (first | exact (by repeat (first | (with_reducible exact HR834.out) | (with_reducible refine Kd.C_alloc ?_ _) | (with_reducible refine Kd.C_drewN ?_ _) | (with_reducible refine Kd.C_drew ?_) | exact HR834.out)) | (with_reducible refine Kd.C_alloc ?_ _) | (with_reducible refine Kd.C_drewN ?_ _) | (with_reducible refine Kd.C_drew ?_)))
               (case aB => exact (bs_ HB GE812))
               (case aF => exact (fun k_ hk => Kd.fresh' (Kd.R_lt (rR_ HO_3)) k_ hk))
               (case aO => exact (by (with_reducible repeat (first | apply Kd.R_alloc | apply Kd.R_drewN | apply Kd.R_drew)); exact Kd.R_mono HO830.out (fun _ hk => hk.2)))
               (case aS => exact (bY_ (bs_ HB GE812)))
               (case aL => have := LMc38.out; omega)
               intro v836 w48 ho hb hg hat
               rw [← Ny835.out] at ho
               replace BK812 := aM_ (blk_grown (g := gb812) (o := .cells #[.slice A0_0 l0_0.length c0_0, .int .i64 a0_1, .int .i64 a0_2, .int .i64 a0_3, .int .i64 a0_4, .int .i64 a0_5, .string a0_6, .slice A0_7 l0_7.length c0_7, .slice A0_8 l0_8.length c0_8, .slice A0_9 l0_9.length c0_9, .slice A0_10 l0_10.length c0_10, .slice A0_11 l0_11.length c0_11] 67 (0, 0)) (rB_ BK812) hg (Kd.R_ne HO830.out BK812.out (by decide)))
               replace HB := aM_ (hb)
               replace HR827 := aM_ ((show Kd.C k24 w48 Ao43 y824.length y824 from by rw [Ny824.out]; exact Kd.C_take (m := (x5_3 : Int).toNat) ((Kd.R_reads' (Kd.R_after (ok := (fun _ => True)) (rR_ HO_3) hg hat)).2.2) KL45.out))
               replace HR834 := aM_ ((show Kd.C k24 w48 A46 y831.length y831 from by rw [Ny831.out, KA46.out]; exact Kd.C_drop (m := ((ji35) : Int).toNat) (c := co43) ((Kd.R_reads' (Kd.R_after (ok := (fun _ => True)) (rR_ HO_3) hg hat)).2.2) KL46.out ((Kd.R_reads' (Kd.R_after (ok := (fun _ => True)) (rR_ HO_3) hg hat)).2.1)))
               replace HO_3 := aM_ (Kd.R_after (ok := (fun _ => True)) (rR_ HO_3) hg hat)
               replace HO837 := aM_ (ho)
               clear HO830
               clear ho hb hg hat
               refine hK.out _ _ trivial (fun hHeld => ?_)
               clear hK K
               refine norm_ (a' := ?_) ?_ ?_
               rotate_left
               ·show Act.put _ (some 53) _ = _
                simp only [Act.put, List.setIfInBounds_toArray, List.set_cons_zero, List.set_cons_succ, i64_w, i32_w]
                rfl
               refine pure_ (i := 9) (N := some 6) (v := ?_) (a' := ?_) #[true, true, true, true, true, true, true, true, true, true] rfl rfl (any_of HT_.out (by kernel_rfl)) (fun _ _ _ h => h) (Or.inl ⟨by rfl, ?_⟩) ?_ ?_
               rotate_left
               ·intro w'
                go_simp
                with_reducible rfl
               rotate_left
               ·simp only [Act.put, List.setIfInBounds_toArray, List.set_cons_zero, List.set_cons_succ, i64_w, i32_w]
                rfl
               refine done_ (done_of HT_.out (by kernel_rfl)) ?_
               obtain ⟨Ao49, co49, eo49⟩ := Kd.R_slice HO837.out
               subst eo49
               try go_wp2_with (first | ((with_reducible refine gC_ (f := 44) rfl ?_); refine gL_ (some 57) Try.func44 #[.agg #[.slice none 0 0, .slice Ao49 y835.length co49, .int .i64 33, .int .i64 0, .int .i64 0, .int .i64 0, .int .i64 0, .string (⟨#[]⟩ : ByteArray)]] rfl ?_; (refine (w15_placed.calls k3 _ _ ([] : List ByteArray) _ _ y835 33 0 0 0 0 (⟨#[]⟩ : ByteArray) true _ ?side1 ?side2 ?side3 ?side4 A39.out).mono ?_); (case side1 => exact Kd.C_nil _ _); (case side2 => exact Nat.le_refl _); (case side3 => exact rC_ (Kd.R_reads' HO837.out).2.2); (case side4 => exact (Kd.R_reads' HO837.out).2.1); rintro e w50 ⟨rfl, hb⟩; refine ⟨_, rfl, ?_⟩; replace HO_3 := aM_ (Kd.R_below (rR_ HO_3) hb); replace HO837 := aM_ (Kd.R_below (rR_ HO837) hb); replace BK812 := aM_ (kB_ (rB_ BK812) hb); replace HR827 := aM_ (Kd.C_below (by repeat (first | (with_reducible exact HR827.out) | (with_reducible refine Kd.C_alloc ?_ _) | (with_reducible refine Kd.C_drewN ?_ _) | (with_reducible refine Kd.C_drew ?_) | exact HR827.out)) hb); replace HR834 := aM_ (Kd.C_below (by repeat (first | (with_reducible exact HR834.out) | (with_reducible refine Kd.C_alloc ?_ _) | (with_reducible refine Kd.C_drewN ?_ _) | (with_reducible refine Kd.C_drew ?_) | exact HR834.out)) hb); replace HB := aM_ (bT_ (bs_ HB GE812) hb)) | (go_at_call 44; (refine (w15_placed.calls k3 _ _ ([] : List ByteArray) _ _ y835 0 0 0 0 0 (⟨#[]⟩ : ByteArray) true _ ?side1 ?side2 ?side3 ?side4 A41.out).mono ?_); (case side1 => exact Kd.C_nil _ _); (case side2 => exact Nat.le_refl _); (case side3 => exact rC_ (Kd.R_reads' HO837.out).2.2); (case side4 => exact (Kd.R_reads' HO837.out).2.1); rintro e w51 ⟨rfl, hb⟩; replace HO_3 := aM_ (Kd.R_below (rR_ HO_3) hb); replace HO837 := aM_ (Kd.R_below (rR_ HO837) hb); replace BK812 := aM_ (kB_ (rB_ BK812) hb); replace HR827 := aM_ (Kd.C_below (by repeat (first | (with_reducible exact HR827.out) | (with_reducible refine Kd.C_alloc ?_ _) | (with_reducible refine Kd.C_drewN ?_ _) | (with_reducible refine Kd.C_drew ?_) | exact HR827.out)) hb); replace HR834 := aM_ (Kd.C_below (by repeat (first | (with_reducible exact HR834.out) | (with_reducible refine Kd.C_alloc ?_ _) | (with_reducible refine Kd.C_drewN ?_ _) | (with_reducible refine Kd.C_drew ?_) | exact HR834.out)) hb); replace HB := aM_ (bT_ (bs_ HB GE812) hb)))
               go_roundg k3
               case measure => have := HK1.out; have := HJ9.out; have := HK3.out; omega
               case rel => exact ⟨(ji35), (by first | rfl | (simp; done) | (simp only [← hji35] <;> (first | rfl | simp)) | (simp [*]; done) | (congr 1; rw [Bool.eq_iff_iff]; simp; done)), H, ⟨by have := HK1.out; have := HJ9.out; have := HK3.out; omega⟩, ⟨by (with_reducible repeat (first | apply Kd.R_alloc | apply Kd.R_drewN | apply Kd.R_drew)); exact Kd.R_mono HO_3.out (fun _ hk => trivial)⟩, ⟨rB_ BK812⟩, ⟨bs_ HB GE812⟩⟩
              exact absurd (placed_true A41.out) c42
             exact absurd (placed_true A39.out) c40
            rw [if_neg c38] at H
            exact absurd H (by simp)
           rw [if_neg c37] at H
           exact absurd H (by simp)
          rw [if_neg c36] at H
          exact absurd H (by simp)
         rw [if_neg c33] at H
         exact absurd H (by simp)
        rw [if_neg c32] at H
        exact absurd H (by simp)
       rw [if_neg c31] at H
       have c31b0 := dF_ c31
       clear c31
       replace H := oB_ H
       obtain ⟨t823, A69, H⟩ := H
       obtain rfl := oI_ H
       obtain ⟨Ao70, co70, eo70⟩ := Kd.R_slice HO_3.out
       subst eo70
       go_wp2_with (first | ((with_reducible refine gC_ (f := 46) rfl ?_); refine gL_ (some 65) Try.func46 #[] rfl ?_; (with_reducible refine (w15_wakes.calls k3  t823 _ A69.out).mono ?_); rintro e w71 ⟨rfl, hb⟩; refine ⟨_, rfl, ?_⟩; replace HO_3 := aM_ (Kd.R_below (rR_ HO_3) hb); replace BK812 := aM_ (kB_ (rB_ BK812) hb); replace HB := aM_ (bT_ (bs_ HB GE812) hb)))
       go_ret
       exact ⟨eR_, bs_ HB GE812⟩
end
section
set_option maxRecDepth 100000
theorem wakes_true : w15_wakes.f 50 = some true := by kernel_rfl
theorem wakes_ev : Ev (fun k => w15_wakes.f k) true := Ev.of w15_wakes.mono wakes_true
end
end Go.Proofs.Ytibfkkjkahpobaa.PDag
