import Derived.Test.YtibfkkjkahpobaaHd25
import Derived.Orders
import Derived.Laws.AppendOwn
import Derived.Laws.Entries
import Derived.Laws.MakeOwn
import Derived.Laws.OwnMore
import Derived.Laws.NewFold
import Derived.Below
import Derived.KernelRfl
import Derived.WalkKit
set_option linter.unusedVariables false
set_option linter.unusedSimpArgs false
set_option maxHeartbeats 8000000
set_option maxRecDepth 100000
section
namespace Go.Proofs.Ytibfkkjkahpobaa.PDag
open Go.RowKit Go.Proofs.YtibfkkjkahpobaaW.PrintWords Go.Proofs.YtibfkkjkahpobaaW.PrintLast Go.Proofs.YtibfkkjkahpobaaW.PrintMore
attribute [local go_sem] Oper.semAt_some
def bundles84.T8 : Bool × List (List Nat × List Nat) := (true, [([], []), ([], []), ([1], [1]), ([2], [2]), ([3], [3]), ([], []), ([4, 5], [4, 5]), ([6], [6]), ([], []), ([8], [8]), ([9], [9]), ([10], [10]), ([], []), ([11, 12], [11, 12]), ([13], [13]), ([], []), ([0, 7], [0, 7]), ([16, 14, 0, 1, 2, 3, 4, 5, 6, 7, 8, 9, 10, 11, 12, 13, 14, 15], [14, 16]), ([17, 15, 0, 1, 2, 3, 4, 5, 6, 7, 8, 9, 10, 11, 12, 13, 14, 15], [15, 17])])
def bundles84.B8 : List Nat := [0, 0, 2, 6, 14, 0, 62, 126, 0, 256, 768, 1792, 0, 7936, 16128, 0, 255, 131071, 262143]
theorem bundles84.tab8 : rtab .any (opsOf Try.f84 8) = bundles84.T8 := by kernel_rfl
theorem bundles84.bits8 : waitsOk bundles84.T8.2 bundles84.B8 = true := by kernel_rfl
def bundles84.T11 : Bool × List (List Nat × List Nat) := (true, [([], []), ([], []), ([], []), ([2], [2]), ([0, 1], [0, 1]), ([4, 0, 1, 2, 3], [4]), ([5, 3, 0, 1, 2, 3], [3, 5])])
def bundles84.B11 : List Nat := [0, 0, 0, 4, 3, 31, 63]
theorem bundles84.tab11 : rtab .any (opsOf Try.f84 11) = bundles84.T11 := by kernel_rfl
theorem bundles84.bits11 : waitsOk bundles84.T11.2 bundles84.B11 = true := by kernel_rfl
theorem slot_store {B g n cap : Nat} {W : World} {xs : List S81} (h : k81.R 81 W B (fun _ => True) (.slice (some ⟨g, 0, none⟩) n cap) xs) (i : Nat) (hi : i < n) (s : Nat) (hs : s < 4) (x : S24) :
    k81.R 81 (W.setCells g (i * 24 + s * 6) (insC x)) B (fun _ => True) (.slice (some ⟨g, 0, none⟩) n cap) (xs.set i (put81 (J81 xs i) s x)) ∧ W.grownBy (W.setCells g (i * 24 + s * 6) (insC x)) (some g) ∧
    (Instr.storeAt 24 (.pointer (some ⟨g, i * 24 + s * 6, none⟩)) (.agg (insC x).toArray)).run Try.prog W = .ok () (W.setCells g (i * 24 + s * 6) (insC x)) := by
  obtain ⟨c, hcl, hM, hcc, hfr⟩ := Kd.R_elem h z81 (i : Int) (by omega) (by omega); have hb : J81 xs (i : Int) = xs.getD (i : Int).toNat z81 := rfl; rw [Int.toNat_natCast] at hcc hfr hM; rw [Int.toNat_natCast] at hb; rw [← hb] at hM; generalize J81 xs (i : Int) = b at hM hb; obtain rfl := k81_openM hM; rw [show k81.sz = 24 from rfl] at hcc hfr hcl
  have hcell : ∀ j, j < 24 → ∃ u, W.cell? ⟨g, i * 24 + j, none⟩ = some u := fun j hj => by
    have h2 := List.getElem?_eq_getElem (l := bunC b) (i := j) (by exact hj); exact ⟨_, hcc j _ h2⟩
  have hone : ∀ q ∈ insC x, q.oneCell' = true := by
    intro q hq; simp only [insC, List.mem_cons, List.not_mem_nil, or_false] at hq; rcases hq with rfl | rfl | rfl | rfl | rfl | rfl <;> rfl
  have hseg : ∀ (s : Nat) (x' : S81), s < 4 → k81.M W B (fun _ => False) x' ((bunC b).take (s * 6) ++ insC x ++ (bunC b).drop (s * 6 + 6)) → k81.R 81 (W.setCells g (i * 24 + s * 6) (insC x)) B (fun _ => True) (.slice (some ⟨g, 0, none⟩) n cap) (xs.set i x') ∧ W.grownBy (W.setCells g (i * 24 + s * 6) (insC x)) (some g) := by
    intro s x' hs hM'; have h2 := Kd.R_seg h (i : Int) (by omega) (by omega) (c := bunC b) (seg := insC x) (j := s * 6) (okp := fun _ => False) (x' := x') rfl (by rw [Int.toNat_natCast]; exact hcc) (by show s * 6 + 6 ≤ 24; omega) hM' (fun _ hk => hk.elim); rw [Int.toNat_natCast] at h2; exact h2
  have hrun : (Instr.storeAt 24 (.pointer (some ⟨g, i * 24 + s * 6, none⟩)) (.agg (insC x).toArray)).run Try.prog W = .ok () (W.setCells g (i * 24 + s * 6) (insC x)) := by
    obtain ⟨i0, hi0, hz⟩ := Option.map_eq_some_iff.1 info24; simp only [Prod.mk.injEq] at hz
    have hst := run_storeCells_cells (P := Try.prog) g (i * 24 + s * 6) (insC x) 0 W (fun j hj => by
      obtain ⟨u, hu⟩ := hcell (s * 6 + j) (by have h6 : j < 6 := hj; omega)
      rw [show i * 24 + s * 6 + 0 + j = i * 24 + (s * 6 + j) by omega, hu]; simp) (fun j _ => by
      have h2 := hfr (s * 6 + j)
      rw [show i * 24 + s * 6 + 0 + j = i * 24 + (s * 6 + j) by omega]; exact h2) hone
    simp only [Nat.add_zero] at hst; simp [Instr.storeAt, Instr.sureAddr, storeVar, sizeOf, typeInfo, hi0, hz.2.1, hst, Value.cells, insC]; exact hst
  have : s = 0 ∨ s = 1 ∨ s = 2 ∨ s = 3 := by omega
  rcases this with rfl | rfl | rfl | rfl
  · have h2 := hseg 0 (put81 b ((0 : Nat) : Int) x) (by omega) (k81_mkM W B _ (put81 b ((0 : Nat) : Int) x)); exact ⟨h2.1, h2.2, hrun⟩
  · have h2 := hseg 1 (put81 b ((1 : Nat) : Int) x) (by omega) (k81_mkM W B _ (put81 b ((1 : Nat) : Int) x)); exact ⟨h2.1, h2.2, hrun⟩
  · have h2 := hseg 2 (put81 b ((2 : Nat) : Int) x) (by omega) (k81_mkM W B _ (put81 b ((2 : Nat) : Int) x)); exact ⟨h2.1, h2.2, hrun⟩
  · have h2 := hseg 3 (put81 b ((3 : Nat) : Int) x) (by omega) (k81_mkM W B _ (put81 b ((3 : Nat) : Int) x)); exact ⟨h2.1, h2.2, hrun⟩
theorem last_end (l : List S24) (x : S24) (ho : okA l) (hn : l.length ≤ 200) (hx : 0 ≤ x.f0 ∧ x.f0 ≤ 33) {B g : Nat} {Al : Option Addr} {cl : Nat} {va vs : Value} {W : World} {ok : Nat → Prop} (hE : PEnd B g Al cl l.length va vs (cycF l).at_ (cycF l).sl W) (hF : Kd.F k24 W ok Al l.length l) (hcl : l.length ≤ cl) (c : Int) (L : Nat) (hcL : endC l x = (c, (L : Int))) :
    Calls Try.prog 113 #[.pointer (some ⟨g, 0, none⟩), .agg #[.int .i64 x.f0, .int .i64 x.f1, .int .i64 x.f2, .int .i64 x.f3, .int .i64 x.f4, .string x.f5]] W fun e w' => e = .returned (.tuple #[.int .i64 c, .int .i64 L]) ∧ Below W.heap.size W w' := by
  obtain ⟨v1, v2, v3, v6, hbx⟩ := hE.box; have hra := hE.ra; have hrs := hE.rs; obtain ⟨hla, hls⟩ := cyc_len ho; obtain ⟨Aa, ca, rfl⟩ := Kd.R_slice hra; obtain ⟨As, cs, rfl⟩ := Kd.R_slice hrs; rw [hla] at hra hbx; rw [hls] at hrs hbx; obtain ⟨_, hca, hCa⟩ := Kd.R_reads' hra; obtain ⟨_, hcs, hCs⟩ := Kd.R_reads' hrs; rw [hla] at hCa; rw [hls] at hCs; have hat : ∀ i : Nat, i < l.length → 0 ≤ rd (cycF l).at_ i ∧ rd (cycF l).at_ i ≤ 799 := fun i hi => (cyc_in ho hn i hi).1; have hlo := lastOf_bd x l (cycF l).at_ hat; refine (last_calls g _ Al Aa As cl ca cs l (cycF l).at_ (cycF l).sl x (lastOf l x (cycF l).at_) 1000 W hbx rfl rfl rfl (Kd.F_now hF) hCa hCs hcl hca hn (okA_L ho) hla (fun k hk => least_eq l (by omega) (okA_L ho) x hx _ hla (by omega)) ⟨hlo.1, by omega⟩ (by omega) (freeFrom_free _ _ _ 799 (fun i hi => (hat i hi).2) 1000 _ (by omega))).mono ?_; rintro e w' ⟨rfl, hb⟩; refine ⟨?_, hb⟩; unfold endC at hcL; split at hcL
  · rename_i h
    injection hcL with h1 h2
    rw [if_pos h, ← h1, ← h2]
  · rename_i h
    injection hcL with h1 h2
    rw [if_neg h, ← h1, ← h2]
theorem R81_shape {n0 : Nat} {W : World} {base : Nat} {ok : Nat → Prop} {v : Value} {xs : List S81} (h : k81.R 81 W base ok v xs) (hn : ∃ b, v.ownBlock = some b ∧ n0 ≤ b) : ∃ g cap, v = .slice (some ⟨g, 0, none⟩) xs.length cap ∧ n0 ≤ g := by
  obtain ⟨b, hb, hle⟩ := hn; obtain ⟨inner, ho⟩ := Kd.R_own h; rcases ho.2 with ⟨rfl, _⟩ | ⟨g, cap, cur, rfl, _⟩
  · simp [Value.ownBlock] at hb
  · have hg : g = b := by simpa [Value.ownBlock] using hb
    subst hg; exact ⟨g, cap, rfl, hle⟩
theorem sched_Bundles.calls (A0 : Option Addr) (nl c0 : Nat) (Al : Option Addr) (cl : Nat) (l : List S24) (x : S24) (w : World) (hl : Kd.C k24 w Al l.length l) (hcl : l.length ≤ cl) (ho : okA l) (hn : l.length ≤ 200) (hx : 0 ≤ x.f0 ∧ x.f0 ≤ 33) :
    Calls Try.prog 84 #[.agg #[.slice A0 nl c0, .slice Al l.length cl, .int .i64 x.f0, .int .i64 x.f1, .int .i64 x.f2, .int .i64 x.f3, .int .i64 x.f4, .string x.f5]] w fun e w' => ∃ v0_ : Value, e = .returned (v0_) ∧ Kd.R k81 81 w' w.heap.size (fun _ => True) v0_ (bunF l x) ∧ Below w.heap.size w w' := by
  have hu73 := Try.underlying73; have hu24 := Try.underlying24; have HL := aM_ hl; have HO := aM_ ho
  have HP := aM_ (fun W hW => planned_calls 50000 Al cl l (edges l) (urges l) (heights l) W (Kd.C_below hl hW) hcl hn (urges_len l) (heights_len l) (by have := edges_few l hn; omega) (fun j hj => by
    rw [rd51_at _ _ hj]; obtain ⟨a, t, e0, e1, hat, htn⟩ := edges_range l _ _ _ (List.getElem_mem hj)
    rw [e1]; omega) (own_edges l hn (okA_L ho) (Nat.le_refl _)) (urge_eq (by omega) l hn ho) (high_eq (by omega) l hn ho))
  have hbd := endC_bd ho hn x; obtain ⟨c, L0, hcL0⟩ : ∃ c L, endC l x = (c, L) := ⟨_, _, rfl⟩
  rw [hcL0] at hbd; simp only at hbd; obtain ⟨L, rfl⟩ := Int.eq_ofNat_of_zero_le hbd.1; have hlong1 : L ≤ 2000 := by have := hbd.2.1; omega
  have HCL := aM_ hcL0; have HBD := aM_ hbd; clear hl ho hbd hcL0; go_enter Try.func84, Try.ntmps84
  go_wp2_with (first | ((with_reducible refine gate_dst (N := 1) rfl ?_); refine bX_ (N := 1) (cs := #[.slice A0 nl c0, .slice Al l.length cl, .int .i64 x.f0, .int .i64 x.f1, .int .i64 x.f2, .int .i64 x.f3, .int .i64 x.f4, .string x.f5]) (t := 73) ?_; intro gb hgb w1 hbox hb; have x1 : w1.cell? ⟨gb, 1, none⟩ = some (.slice Al l.length cl) := (bC_ hbox 1).trans rfl; have BX := aM_ hbox; have HB := aM_ hb; have GB := aM_ (show w.heap.size ≤ gb from by rw [hgb]; exact Nat.le_refl _); clear hbox hb hgb) | (go_at_call 78; refine (HP.out _ HB.out).mono ?_; rintro e w2 ⟨B, g, A12, A15, A18, A21, c12, c15, c18, c21, vA, rfl, hB1, hBg, hPLI, hF, hb⟩; have HB1 := aM_ (Nat.le_trans HB.out.size hB1); have HB1' := aM_ hB1; have HBG := aM_ hBg; have HPL := aM_ hPLI; have HF := aM_ hF; have HB2 := aM_ (HB.out.trans (hb.mono HB.out.size)); have BX2 := aM_ (kB_ BX.out hb); clear hB1 hBg hPLI hF hb x1) | (go_at_call 79; refine (ran_calls l HO.out hn HPL.out HF.out HBG.out (Nat.le_of_lt (Nat.lt_of_le_of_lt HBG.out (blk_lt HPL.out.box)))).mono ?_; rintro e w3 ⟨⟨v9, rfl⟩, ⟨va, vs, hE⟩, hb⟩; have BX3 := aM_ ((hb.block gb (Nat.lt_of_lt_of_le (blk_lt BX.out) HB1'.out)).trans BX2.out); have HB3 := aM_ (HB2.out.trans (hb.mono HB1.out)); have HE := aM_ hE; have HF3 := aM_ (Kd.F_step HF.out (fun k_ hk _ => hb.block k_ hk)); clear hE hb; have y2 : w3.cell? ⟨gb, 2, none⟩ = some (.int .i64 x.f0) := (bC_ BX3.out 2).trans rfl; have y3 : w3.cell? ⟨gb, 3, none⟩ = some (.int .i64 x.f1) := (bC_ BX3.out 3).trans rfl; have y4 : w3.cell? ⟨gb, 4, none⟩ = some (.int .i64 x.f2) := (bC_ BX3.out 4).trans rfl; have y5 : w3.cell? ⟨gb, 5, none⟩ = some (.int .i64 x.f3) := (bC_ BX3.out 5).trans rfl; have y6 : w3.cell? ⟨gb, 6, none⟩ = some (.int .i64 x.f4) := (bC_ BX3.out 6).trans rfl; have y7 : w3.cell? ⟨gb, 7, none⟩ = some (.string x.f5) := (bC_ BX3.out 7).trans rfl) | (go_at_call 113; refine (last_end l x HO.out hn hx HE.out HF3.out hcl c L HCL.out).mono ?_; rintro e w4 ⟨rfl, hb⟩; have HB4 := aM_ (HB3.out.trans (hb.mono HB3.out.size)); have HB45 := aM_ hb; clear hb y2 y3 y4 y5 y6 y7) | ((with_reducible refine gate_dst (N := 22) rfl ?_); refine Kd.R_make k81 _ 81 rfl (N := 22) rfl 65 _ _ rfl (L : Int) rfl rfl Try.underlying65 (.agg #[(.int .i64 0), (.int .i64 0), (.int .i64 0), (.int .i64 0), (.int .i64 0), (.string ⟨#[]⟩), (.int .i64 0), (.int .i64 0), (.int .i64 0), (.int .i64 0), (.int .i64 0), (.string ⟨#[]⟩), (.int .i64 0), (.int .i64 0), (.int .i64 0), (.int .i64 0), (.int .i64 0), (.string ⟨#[]⟩), (.int .i64 0), (.int .i64 0), (.int .i64 0), (.int .i64 0), (.int .i64 0), (.string ⟨#[]⟩)]) 224 info81 rfl (by decide) (by omega) z81 (ok := fun _ => True) (okp := fun _ => True) (k81_mkM _ _ _ z81) (fun _ hk => hk) trivial (Int.natCast_nonneg _) (by omega) (Below.refl _ _) (Nat.le_refl _) ?_; intro vc w5 hR5 hb5 _ hn5; rw [Int.toNat_natCast] at hR5; obtain ⟨gc, cap, hvc, hgc⟩ := R81_shape hR5 hn5; subst hvc; rw [List.length_replicate] at hR5; have HR5 := aM_ hR5; have HB5 := aM_ hb5; have HGC := aM_ hgc; have BX5 := aM_ (kB_ (kB_ BX3.out HB45.out) hb5); have x15 : w5.cell? ⟨gb, 1, none⟩ = some (.slice Al l.length cl) := (bC_ BX5.out 1).trans rfl; clear hR5 hb5 hn5 hgc))
  obtain ⟨v1, v2, v3, v6, hbE⟩ := HE.out.box; have hra := HE.out.ra; have hrs := HE.out.rs; obtain ⟨hla, hls⟩ := cyc_len HO.out; obtain ⟨Aa, ca, hva⟩ := Kd.R_slice hra; obtain ⟨As, cs, hvs⟩ := Kd.R_slice hrs; subst hva; subst hvs; rw [hla] at hra hbE; rw [hls] at hrs hbE; have hCa := (Kd.R_reads' hra).2.2; have hCs := (Kd.R_reads' hrs).2.2; rw [hla] at hCa; rw [hls] at hCs; have BE := aM_ (kB_ hbE HB45.out); have CA := aM_ (Kd.C_below hCa HB45.out); have CS := aM_ (Kd.C_below hCs HB45.out); have CL := aM_ (Kd.C_below (Kd.F_now HF3.out) HB45.out); have BX4 := aM_ (kB_ BX3.out HB45.out); have HIN := aM_ (fun i hi => cyc_in HO.out hn i hi); clear hra hrs hbE hCa hCs hla hls HE HF3 HF HPL HP BX BX2 BX3 BX5 x15 HB1' HBG
  go_loopw [26] (fun i wr => ∃ j : Nat, j ≤ l.length ∧ i = .int .i64 j ∧ As_ (Kd.R k81 81 wr w4.heap.size (fun _ => True) (.slice (some ⟨gc, 0, none⟩) L cap) (bunUp l (cycF l).at_ (cycF l).sl (List.replicate L z81) j)) ∧ As_ (Below w4.heap.size w4 wr)) (fun i _ => l.length - (intOf i).toNat)
  case atStart => exact ⟨0, Nat.zero_le _, rfl, ⟨HR5.out⟩, ⟨HB5.out⟩⟩
  case round =>
    clear HR5 HB5; obtain ⟨j, hj, rfl, HR, HB⟩ := hrel
    by_cases hlt : j < l.length
    · obtain ⟨ad, e1, hx0, hx1, hx2, hx3, hx4, hx5⟩ := at_T24 (Kd.C_below CL.out HB.out) (j : Int) (Int.natCast_nonneg _) (by omega); subst e1; obtain ⟨ada, e2, ha⟩ := Kd.at_int (Kd.C_below CA.out HB.out) (j : Int) (Int.natCast_nonneg _) (by omega); subst e2; obtain ⟨ads, e3, hs⟩ := Kd.at_int (Kd.C_below CS.out HB.out) (j : Int) (Int.natCast_nonneg _) (by omega); subst e3; rw [Int.toNat_natCast] at hx0 hx1 hx2 hx3 hx4 hx5 ha hs; have hin := HIN.out j hlt; have hlt2 := HBD.out.2.2.2.2 j hlt; have hbun : bunUp l (cycF l).at_ (cycF l).sl (List.replicate L z81) (j + 1) = (bunUp l (cycF l).at_ (cycF l).sl (List.replicate L z81) j).set (rd (cycF l).at_ j).toNat (put81 (J81 (bunUp l (cycF l).at_ (cycF l).sl (List.replicate L z81) j) (rd (cycF l).at_ j)) (rd (cycF l).sl j) (J24 l j)) := rfl; have HBU := aM_ hbun; clear hbun; generalize hai : rd (cycF l).at_ (j : Int) = va at ha hin hlt2 HBU; generalize hsi : rd (cycF l).sl (j : Int) = vs at hs hin HBU; obtain ⟨av, rfl⟩ := Int.eq_ofNat_of_zero_le hin.1.1; obtain ⟨sv, rfl⟩ := Int.eq_ofNat_of_zero_le hin.2.1; have hav : av < L := by omega
      have hsv : sv < 4 := by omega
      clear hin hlt2 hai hsi; have HAV := aM_ hav; have HSV := aM_ hsv; have p1 : ((0 : Int) ≤ (j : Int)) = True := eq_true (Int.natCast_nonneg _); have q1 : ((j : Int) < (l.length : Int)) = True := eq_true (by omega); have q1n : (j < l.length) = True := eq_true hlt; have p2 : ((0 : Int) ≤ (av : Int)) = True := eq_true (Int.natCast_nonneg _); have q2 : ((av : Int) < (L : Int)) = True := eq_true (by omega); have q2n : (av < L) = True := eq_true hav; have p3 : ((0 : Int) ≤ (sv : Int)) = True := eq_true (Int.natCast_nonneg _); have q3 : ((sv : Int) < 4) = True := eq_true (by omega); have q3n : (sv < 4) = True := eq_true hsv; clear hav hsv; have hw2 : wrap64 ((j : Int) + 1) = ((j + 1 : Nat) : Int) := by unfold wrap64; omega
      go_wp2; have hb1 := b1_ (bA_ (Below.refl wr.heap.size wr) (.cells #[.int .i64 (J24 l (j : Int)).f0, .int .i64 (J24 l (j : Int)).f1, .int .i64 (J24 l (j : Int)).f2, .int .i64 (J24 l (j : Int)).f3, .int .i64 (J24 l (j : Int)).f4, .string (J24 l (j : Int)).f5] 24)); have hbx : (wr.alloc (.cells #[.int .i64 (J24 l (j : Int)).f0, .int .i64 (J24 l (j : Int)).f1, .int .i64 (J24 l (j : Int)).f2, .int .i64 (J24 l (j : Int)).f3, .int .i64 (J24 l (j : Int)).f4, .string (J24 l (j : Int)).f5] 24)).drew.heap[wr.heap.size]? = some (.cells #[.int .i64 (J24 l (j : Int)).f0, .int .i64 (J24 l (j : Int)).f1, .int .i64 (J24 l (j : Int)).f2, .int .i64 (J24 l (j : Int)).f3, .int .i64 (J24 l (j : Int)).f4, .string (J24 l (j : Int)).f5] 24 (0, 0)) := blk_new wr _; have HBX := aM_ hbx; have HR1 := aM_ (Kd.R_below HR.out hb1); have HB1 := aM_ (HB.out.trans (hb1.mono HB.out.size)); have m4 := aM_ (bC_ ((HB1.out.block g (blk_lt BE.out)).trans BE.out) 4); have m5 := aM_ (bC_ ((HB1.out.block g (blk_lt BE.out)).trans BE.out) 5); have ma := aM_ (pw_cell_below hb1 ha); have ms := aM_ (pw_cell_below hb1 hs); clear hb1 hbx HR HB ha hs hx0 hx1 hx2 hx3 hx4 hx5; generalize hy : J24 l (j : Int) = y at HBX HR1 HB1 m4 m5 ma ms HBU ⊢; refine start_ (n := 19) (S := fun w' => w'.cell? ⟨g, 4, none⟩ = some (.slice (some ada) l.length ca) ∧ w'.cell? ⟨g, 5, none⟩ = some (.slice (some ads) l.length cs) ∧ w'.cell? (ada.add j) = some (.int .i64 av) ∧ w'.cell? (ads.add j) = some (.int .i64 sv) ∧ w'.cell? ⟨wr.heap.size, 0, none⟩ = some (.int .i64 y.f0) ∧ w'.cell? ⟨wr.heap.size, 1, none⟩ = some (.int .i64 y.f1) ∧ w'.cell? ⟨wr.heap.size, 2, none⟩ = some (.int .i64 y.f2) ∧ w'.cell? ⟨wr.heap.size, 3, none⟩ = some (.int .i64 y.f3) ∧ w'.cell? ⟨wr.heap.size, 4, none⟩ = some (.int .i64 y.f4) ∧ w'.cell? ⟨wr.heap.size, 5, none⟩ = some (.string y.f5)) (ds := [18]) (bm 19 0) (by kernel_rfl) rfl (by kernel_rfl) ⟨m4.out.trans rfl, m5.out.trans rfl, ma.out, ms.out, (bC_ HBX.out 0).trans rfl, (bC_ HBX.out 1).trans rfl, (bC_ HBX.out 2).trans rfl, (bC_ HBX.out 3).trans rfl, (bC_ HBX.out 4).trans rfl, (bC_ HBX.out 5).trans rfl⟩ (fun hHeld => ?_); refine with_tabW bundles84.tab8 bundles84.bits8 (fun HT_ HW_ => ?_); clear HBX m4 m5 ma ms; generalize wr.heap.size = gx at hHeld ⊢; generalize (wr.alloc (.cells #[.int .i64 y.f0, .int .i64 y.f1, .int .i64 y.f2, .int .i64 y.f3, .int .i64 y.f4, .string y.f5] 24)).drew = W5 at HR1 HB1 hHeld ⊢; refine sq_ (k := 1) [(0, some 31, false), (1, some 32, false), (2, some 33, false), (3, some 34, false), (4, some 35, true), (5, some 36, false), (6, some 37, false), (7, some 38, true), (8, some 39, false), (9, some 40, false), (10, some 41, false), (11, some 42, true), (12, some 43, false), (13, some 44, false), (14, some 45, true), (15, some 46, true), (16, some 47, false), (17, some 48, false)] #[true, true, true, true, true, true, true, true, true, true, true, true, true, true, true, true, true, true, false] rfl (sq_of HT_.out HW_.out (by kernel_rfl)) (fun _ _ _ _ _ h => h) hHeld ?_
      repeat (first | (refine SqOn.pure (v := ?_) (a' := ?_) rfl rfl (Or.inl ⟨by kernel_rfl, ?_⟩) ?_ ?_; rotate_left 2; (focus (intro w'; go_simp; with_reducible rfl)); (focus exact pU_)) | (refine SqOn.take (v := ?_) (a' := ?_) rfl rfl (Or.inl ⟨by kernel_rfl, ?_⟩) ?_ ?_; rotate_left 2; (focus (rintro w' ⟨s0, s1, s2, s3, s4, s5, s6, s7, s8, s9⟩; go_simp; with_reducible rfl)); (focus exact pU_)))
      refine SqOn.nil ?_; obtain ⟨hR2, hg2, hrun⟩ := slot_store HR1.out av HAV.out sv HSV.out y; have hR3 := aM_ hR2; have hB3 := aM_ (pw_below_grown HB1.out (some gc) HB1.out.size hg2 (fun k_ e_ => by injection e_ with e_; subst e_; exact HGC.out)); have hrun3 := aM_ hrun; clear hR2 hg2 hrun; refine last_ (i := 18) (N := none) #[true, true, true, true, true, true, true, true, true, true, true, true, true, true, true, true, true, true, true] rfl rfl (one_of HT_.out (by kernel_rfl)) (by decide) (fun K hK => ?_); refine skip_ (w1 := W5.setCells gc (av * 24 + sv * 6) (insC y)) (by rfl) rfl ?_ ?_
      · have h_ := hrun3.out; simp only [insC] at h_ ⊢; simp [execOp, Act.eval, h_, Result.andThen]
      refine hK.out _ _ ?_; clear hK K hrun3 HR1 HB1 hHeld; refine done_ (done_of HT_.out (by kernel_rfl)) ?_; clear HT_ HW_; generalize W5.setCells gc (av * 24 + sv * 6) (insC y) = W6 at hR3 hB3 ⊢; go_wp2; refine ⟨⟨j + 1, by omega, by congr 1, ⟨by rw [HBU.out]; exact hR3.out⟩, ⟨hB3.out⟩⟩, ?_⟩; simp [intOf]; omega
    · obtain rfl : j = l.length := by omega
      have q1 : ((l.length : Int) < (l.length : Int)) = False := eq_false (by omega); have hcl2 := HBD.out
      by_cases h0 : 0 ≤ c
      · have c1 : ((0 : Int) ≤ c) = True := eq_true h0; have c1b : decide ((0 : Int) ≤ c) = true := decide_eq_true h0; have hcL : c < (L : Int) := hcl2.2.2.1; clear hcl2; obtain ⟨cv, rfl⟩ := Int.eq_ofNat_of_zero_le h0; clear h0; have p2 : ((0 : Int) ≤ (cv : Int)) = True := eq_true (Int.natCast_nonneg _); have q2 : ((cv : Int) < (L : Int)) = True := eq_true hcL; have hcv : cv < L := by omega
        have q2n : (cv < L) = True := eq_true hcv; have HCV := aM_ hcv; clear hcv hcL; have BX6 := aM_ ((HB.out.block gb (blk_lt BX4.out)).trans BX4.out); go_wp2; refine start_ (n := 7) (S := fun w' => w'.cell? ⟨gb, 2, none⟩ = some (.int .i64 x.f0) ∧ w'.cell? ⟨gb, 3, none⟩ = some (.int .i64 x.f1) ∧ w'.cell? ⟨gb, 4, none⟩ = some (.int .i64 x.f2) ∧ w'.cell? ⟨gb, 5, none⟩ = some (.int .i64 x.f3) ∧ w'.cell? ⟨gb, 6, none⟩ = some (.int .i64 x.f4) ∧ w'.cell? ⟨gb, 7, none⟩ = some (.string x.f5)) (ds := [6]) (bm 7 0) (by kernel_rfl) rfl (by kernel_rfl) ⟨(bC_ (kD_ BX6.out) 2).trans rfl, (bC_ (kD_ BX6.out) 3).trans rfl, (bC_ (kD_ BX6.out) 4).trans rfl, (bC_ (kD_ BX6.out) 5).trans rfl, (bC_ (kD_ BX6.out) 6).trans rfl, (bC_ (kD_ BX6.out) 7).trans rfl⟩ (fun hHeld => ?_); refine with_tabW bundles84.tab11 bundles84.bits11 (fun HT_ HW_ => ?_); have HR1 := aM_ (Kd.R_drew HR.out); have HB1 := aM_ (b1_ HB.out |> fun h_ => (h_ : Below w4.heap.size w4 wr.drew)); clear HR HB BX6; generalize wr.drew = W5 at HR1 HB1 hHeld ⊢; refine sq_ (k := 1) [(0, some 52, false), (1, some 53, false), (2, some 54, false), (3, some 55, true), (4, some 56, false), (5, some 57, false)] #[true, true, true, true, true, true, false] rfl (sq_of HT_.out HW_.out (by kernel_rfl)) (fun _ _ _ _ _ h => h) hHeld ?_
        repeat (first | (refine SqOn.pure (v := ?_) (a' := ?_) rfl rfl (Or.inl ⟨by kernel_rfl, ?_⟩) ?_ ?_; rotate_left 2; (focus (intro w'; go_simp; with_reducible rfl)); (focus exact pU_)) | (refine SqOn.take (v := ?_) (a' := ?_) rfl rfl (Or.inl ⟨by kernel_rfl, ?_⟩) ?_ ?_; rotate_left 2; (focus (rintro w' ⟨s0, s1, s2, s3, s4, s5⟩; go_simp; with_reducible rfl)); (focus exact pU_)))
        refine SqOn.nil ?_; obtain ⟨hR2, hg2, hrun⟩ := slot_store HR1.out cv HCV.out 0 (by omega) x; have hR3 := aM_ hR2; have hB3 := aM_ (pw_below_grown HB1.out (some gc) HB1.out.size hg2 (fun k_ e_ => by injection e_ with e_; subst e_; exact HGC.out)); have hrun3 := aM_ hrun; clear hR2 hg2 hrun; refine last_ (i := 6) (N := none) #[true, true, true, true, true, true, true] rfl rfl (one_of HT_.out (by kernel_rfl)) (by decide) (fun K hK => ?_); refine skip_ (w1 := W5.setCells gc (cv * 24 + 0 * 6) (insC x)) (by rfl) rfl ?_ ?_
        · have h_ := hrun3.out; simp only [insC, Nat.zero_mul, Nat.add_zero] at h_ ⊢; simp [execOp, Act.eval, h_, Result.andThen]
        refine hK.out _ _ ?_; clear hK K hrun3 HR1 HB1 hHeld; refine done_ (done_of HT_.out (by kernel_rfl)) ?_; clear HT_ HW_; generalize W5.setCells gc (cv * 24 + 0 * 6) (insC x) = W6 at hR3 hB3 ⊢; go_wp2; go_ret; refine ⟨_, rfl, Kd.R_lower ?_ HB4.out.size, HB4.out.trans (hB3.out.mono HB4.out.size)⟩; have hc : (endC l x).1 = cv := by rw [HCL.out]
        have hL2 : (endC l x).2.toNat = L := by rw [HCL.out]; simp
        unfold bunF bunAll; rw [hc, if_pos (Int.natCast_nonneg _), hL2, Int.toNat_natCast]; exact hR3.out
      · have c1 : ((0 : Int) ≤ c) = False := eq_false h0; have c1b : decide ((0 : Int) ≤ c) = false := decide_eq_false h0; clear hcl2; have H0 := aM_ h0; clear h0; go_wp2; go_ret; refine ⟨_, rfl, Kd.R_lower ?_ HB4.out.size, HB4.out.trans (HB.out.mono HB4.out.size)⟩; have hc : (endC l x).1 = c := by rw [HCL.out]
        have hL2 : (endC l x).2.toNat = L := by rw [HCL.out]; simp
        unfold bunF bunAll; rw [hc, if_neg (by have := H0.out; omega), hL2]; exact HR.out
end Go.Proofs.Ytibfkkjkahpobaa.PDag
end
section
-- the texts that this claim needs, out of this session's and its print's (wip/shrink.py)
namespace Go.Den
open Go Go.RowKit
@[reducible] def nb (a b : Nat) : Bool := a == b
@[reducible] def nle (a b : Nat) : Bool := a - b == 0
@[reducible] def nlt (a b : Nat) : Bool := nle (a + 1) b
theorem nb_eq {a b : Nat} (h : nb a b = true) : a = b := by simpa [nb] using h
theorem nb_ne {a b : Nat} (h : nb a b = false) : a ≠ b := by simpa [nb] using h
theorem nb_refl (a : Nat) : nb a a = true := by simp [nb]
theorem nle_le {a b : Nat} (h : nle a b = true) : a ≤ b := by
  have : a - b = 0 := by simpa [nle] using h
  omega
inductive K where
  | int (k : IntKind)
  | bool
  | str
  | unit
  | pair (a b : K)
  | row (e : Nat) (a : K)
  deriving DecidableEq
@[reducible] def K.T : K → Type
  | .int _ => Int
  | .bool => Bool
  | .str => ByteArray
  | .unit => Unit
  | .pair a b => a.T × b.T
  | .row _ a => List a.T
def K.sz : K → Nat
  | .unit => 0
  | .pair a b => a.sz + b.sz
  | _ => 1
def K.zero : (k : K) → k.T
  | .int _ => (0 : Int)
  | .bool => false
  | .str => (⟨#[]⟩ : ByteArray)
  | .unit => ()
  | .pair a b => (a.zero, b.zero)
  | .row _ _ => []
inductive C where
  | int (k : IntKind) (n : Int)
  | bool (b : Bool)
  | str (s : ByteArray)
  | row (e : Nat) (k : K) (xs : List k.T)    -- a row that stays as it is
  | nil                             -- a nil row
  | own (id : Nat)                  -- the own row at id
  | sub (id lo hi : Nat)            -- a part of it
  | ptr (id off : Nat)              -- an address in the box at id
  | nilp
  | at_ (k : K) (x : k.T) (off : Nat)  -- an address behind which x stays
  | elt (id i off : Nat)            -- an address in element i of the own row at id
  | fn (f : Nat) (caps : List Nat)  -- a function, its captured boxes
  | dead
inductive S where
  | undef
  | one (c : C)
  | agg (l : List C)
  | tup (l : List (Bool × List C))
  | grd (b : Bool) (s : S)          -- s, where b holds
  | raw (v : Value)                 -- this value itself
inductive Blk where
  | box (t : Nat) (l : List C)
  | row (e : Nat) (k : K) (xs : List k.T)
  | frz (e : Nat) (k : K) (xs : List k.T)     -- a row that is no longer written
  | dead
structure Agree (U : Nat → Prop) (w w' : World) : Prop where
  os : w'.os = w.os
  tape : w'.tape = w.tape
  output : w'.output = w.output
  size : w.heap.size ≤ w'.heap.size
  block : ∀ b, b < w.heap.size → ¬ U b → w'.heap[b]? = w.heap[b]?
theorem Agree.refl (U : Nat → Prop) (w : World) : Agree U w w := ⟨rfl, rfl, rfl, Nat.le_refl _, fun _ _ _ => rfl⟩
theorem Agree.trans {U U1 : Nat → Prop} {w w1 w2 : World} (h : Agree U w w1) (h1 : Agree U1 w1 w2) (hu : ∀ b, b < w.heap.size → U1 b → U b) : Agree U w w2 :=
  ⟨h1.os.trans h.os, h1.tape.trans h.tape, h1.output.trans h.output, Nat.le_trans h.size h1.size, fun b hb hn =>
    (h1.block b (Nat.lt_of_lt_of_le hb h.size) (fun hx => hn (hu b hb hx))).trans (h.block b hb hn)⟩
theorem Agree.mono {U U1 : Nat → Prop} {w w1 : World} (h : Agree U w w1) (hu : ∀ b, b < w.heap.size → U b → U1 b) : Agree U1 w w1 :=
  ⟨h.os, h.tape, h.output, h.size, fun b hb hn => h.block b hb (fun hx => hn (hu b hb hx))⟩
theorem Agree.below {U : Nat → Prop} {w w1 : World} (h : Agree U w w1) (hu : ∀ b, b < w.heap.size → ¬ U b) : Below w.heap.size w w1 :=
  ⟨h.os, h.tape, h.output, h.size, fun b hb => h.block b hb (hu b hb)⟩
theorem Agree.of_below {U : Nat → Prop} {w w1 : World} (h : Below w.heap.size w w1) : Agree U w w1 :=
  ⟨h.os, h.tape, h.output, h.size, fun b hb _ => h.block b hb⟩
theorem Agree.cell {U : Nat → Prop} {w w1 : World} (h : Agree U w w1) {a : Addr} {v : Value} (hc : w.cell? a = some v) (hn : ¬ U a.block) : w1.cell? a = some v := by
  have := h.block a.block (World.block_lt_of_cell? w a hc) hn; rw [World.cell?_of_block this]; exact hc
structure Tr (U : Nat → Prop) (w : World) (U1 : Nat → Prop) (w1 : World) : Prop where
  agree : Agree U w w1
  less : ∀ b, b < w.heap.size → U1 b → U b
theorem Tr.refl (U : Nat → Prop) (w : World) : Tr U w U w := ⟨Agree.refl _ _, fun _ _ h => h⟩
theorem Tr.trans {U U1 U2 : Nat → Prop} {w w1 w2 : World} (h : Tr U w U1 w1) (h1 : Tr U1 w1 U2 w2) : Tr U w U2 w2 :=
  ⟨h.agree.trans h1.agree h.less, fun b hb hx => h.less b hb (h1.less b (Nat.lt_of_lt_of_le hb h.agree.size) hx)⟩
def RowAt {α : Type} (R : α → List Value → Prop) (size : Nat) (w : World) (A : Option Addr) (n : Nat) (ps : List α) : Prop :=
  ps.length = n ∧ n ≤ 9223372036854775807 ∧ (0 < n → ∃ ad, A = some ad ∧ ∀ j p, ps[j]? = some p → ∃ c, c.length = size ∧ R p c ∧ ∀ i u, c[i]? = some u → w.cell? (ad.add (j * size + i)) = some u)
theorem RowAt.imp {α : Type} {R R' : α → List Value → Prop} {size : Nat} {w : World} {A : Option Addr} {n : Nat} {ps : List α} (h : RowAt R size w A n ps) (hR : ∀ p c, R p c → R' p c) : RowAt R' size w A n ps :=
  ⟨h.1, h.2.1, fun hn => by
    obtain ⟨ad, e, hc⟩ := h.2.2 hn
    exact ⟨ad, e, fun j p hj => by
      obtain ⟨c, hs, hr, hcell⟩ := hc j p hj
      exact ⟨c, hs, hR _ _ hr, hcell⟩⟩⟩
def KR (w : World) : (k : K) → k.T → List Value → Prop
  | .int kk, n, cs => cs = [.int kk n]
  | .bool, b, cs => cs = [.bool b]
  | .str, s, cs => cs = [.string s]
  | .unit, _, cs => cs = []
  | .pair a b, x, cs => ∃ c0 c1, cs = c0 ++ c1 ∧ KR w a x.1 c0 ∧ KR w b x.2 c1
  | .row _ a, xs, cs => ∃ A c, cs = [.slice A xs.length c] ∧ xs.length ≤ c ∧ RowAt (KR w a) a.sz w A xs.length xs
theorem KR.len {w : World} : ∀ {k : K} {x : k.T} {cs : List Value}, KR w k x cs → cs.length = k.sz
  | .int _, _, _, h => by rw [h]; rfl
  | .bool, _, _, h => by rw [h]; rfl
  | .str, _, _, h => by rw [h]; rfl
  | .unit, _, _, h => by rw [h]; rfl
  | .pair a b, x, cs, h => by
    obtain ⟨c0, c1, rfl, h0, h1⟩ := h
    rw [List.length_append, KR.len h0, KR.len h1]; rfl
  | .row _ a, _, _, h => by
    obtain ⟨A, c, rfl, _⟩ := h; rfl
theorem KR.one {w : World} : ∀ {k : K} {x : k.T} {cs : List Value}, KR w k x cs → ∀ u ∈ cs, u.oneCell' = true
  | .int _, _, _, h, u, hu => by rw [h] at hu; rw [List.mem_singleton.1 hu]; rfl
  | .bool, _, _, h, u, hu => by rw [h] at hu; rw [List.mem_singleton.1 hu]; rfl
  | .str, _, _, h, u, hu => by rw [h] at hu; rw [List.mem_singleton.1 hu]; rfl
  | .unit, _, _, h, u, hu => by rw [h] at hu; cases hu
  | .pair a b, x, cs, h, u, hu => by
    obtain ⟨c0, c1, rfl, h0, h1⟩ := h; rcases List.mem_append.1 hu with hu | hu
    · exact KR.one h0 u hu
    · exact KR.one h1 u hu
  | .row _ a, _, _, h, u, hu => by
    obtain ⟨A, c, rfl, _⟩ := h; rw [List.mem_singleton.1 hu]; rfl
def KS (U : Nat → Prop) (w : World) (k : K) (x : k.T) (cs : List Value) : Prop := ∀ w', Agree U w w' → KR w' k x cs
theorem KS.now {U : Nat → Prop} {w : World} {k : K} {x : k.T} {cs : List Value} (h : KS U w k x cs) : KR w k x cs := h w (Agree.refl _ _)
theorem KS.tr {U U1 : Nat → Prop} {w w1 : World} {k : K} {x : k.T} {cs : List Value} (h : KS U w k x cs) (t : Tr U w U1 w1) : KS U1 w1 k x cs :=
  fun w2 h2 => h w2 (t.agree.trans h2 t.less)
theorem KS.pair {U : Nat → Prop} {w : World} {a b : K} {x : (K.pair a b).T} {cs : List Value} : KS U w (.pair a b) x cs ↔ ∃ c0 c1, cs = c0 ++ c1 ∧ KS U w a x.1 c0 ∧ KS U w b x.2 c1 := by
  constructor
  · intro h; obtain ⟨c0, c1, e, h0, h1⟩ := h.now; refine ⟨c0, c1, e, fun w' hw => ?_, fun w' hw => ?_⟩
    · obtain ⟨d0, d1, e', k0, k1⟩ := h w' hw; have hl : c0.length = d0.length := by rw [h0.len, k0.len]
      have := (List.append_inj (e.symm.trans e') hl).1; rw [this]; exact k0
    · obtain ⟨d0, d1, e', k0, k1⟩ := h w' hw; have hl : c0.length = d0.length := by rw [h0.len, k0.len]
      have := (List.append_inj (e.symm.trans e') hl).2; rw [this]; exact k1
  · rintro ⟨c0, c1, rfl, h0, h1⟩ w' hw; exact ⟨c0, c1, rfl, h0 w' hw, h1 w' hw⟩
def K.flat : (k : K) → k.T → List C
  | .int kk, n => [.int kk n]
  | .bool, b => [.bool b]
  | .str, s => [.str s]
  | .unit, _ => []
  | .pair a b, x => a.flat x.1 ++ b.flat x.2
  | .row e a, xs => [.row e a xs]
theorem K.flat_length : ∀ (k : K) (x : k.T), (k.flat x).length = k.sz
  | .int _, _ => rfl
  | .bool, _ => rfl
  | .str, _ => rfl
  | .unit, _ => rfl
  | .pair a b, x => by rw [K.flat, List.length_append, K.flat_length a, K.flat_length b]; rfl
  | .row _ _, _ => rfl
def castRow (a' a : K) (xs : List a'.T) : Option (List a.T) := if h : a' = a then some (h ▸ xs) else none
theorem castRow_self (a : K) (xs : List a.T) : castRow a a xs = some xs := by simp [castRow]
theorem castRow_some {a' a : K} {xs : List a'.T} {ys : List a.T} (h : castRow a' a xs = some ys) : ∃ e : a' = a, e ▸ xs = ys := by
  unfold castRow at h; split at h
  · rename_i e; exact ⟨e, Option.some.inj h⟩
  · cases h
def K.fit : (k : K) → List C → Option (k.T × List C)
  | .int kk, l => match l with
    | .int k' n :: r => if kk = k' then some (n, r) else none
    | _ => none
  | .bool, l => match l with
    | .bool b :: r => some (b, r)
    | _ => none
  | .str, l => match l with
    | .str s :: r => some (s, r)
    | _ => none
  | .unit, l => some ((), l)
  | .pair a b, l => (a.fit l).bind fun p => (b.fit p.2).bind fun q => some ((p.1, q.1), q.2)
  | .row e a, l => match l with
    | .row e' a' xs :: r => bif nb e' e then (castRow a' a xs).map fun ys => (ys, r) else none
    | .nil :: r => some ([], r)
    | _ => none
end Go.Den
end
section
-- the texts that this claim needs, out of this session's and its print's (wip/shrink.py)
namespace Go.Den
open Go Go.RowKit
def All2 {α β : Type} (R : α → β → Prop) (l : List α) (l' : List β) : Prop := l.length = l'.length ∧ ∀ (i : Nat) a b, l[i]? = some a → l'[i]? = some b → R a b
section
variable {α β : Type} {R R' : α → β → Prop} {l l1 : List α} {m m1 : List β} {a : α} {b : β}
theorem All2.imp (h : All2 R l m) (hr : ∀ a b, R a b → R' a b) : All2 R' l m := ⟨h.1, fun i a b ha hb => hr _ _ (h.2 i a b ha hb)⟩
theorem All2.nil : All2 R [] [] := ⟨rfl, fun i a b h => by simp at h⟩
theorem All2.cons (h : R a b) (t : All2 R l m) : All2 R (a :: l) (b :: m) := ⟨by simp [t.1], fun i x y hx hy => by
  cases i with
  | zero => simp at hx hy; rw [← hx, ← hy]; exact h
  | succ i => simp at hx hy; exact t.2 i x y hx hy⟩
theorem All2.head (h : All2 R (a :: l) (b :: m)) : R a b ∧ All2 R l m := ⟨h.2 0 a b rfl rfl, by simpa using h.1, fun i x y hx hy => h.2 (i + 1) x y (by simpa using hx) (by simpa using hy)⟩
theorem All2.left_cons (h : All2 R (a :: l) m) : ∃ b m', m = b :: m' ∧ R a b ∧ All2 R l m' := by
  cases m with
  | nil => simp [All2] at h
  | cons b m => exact ⟨b, m, rfl, h.head⟩
theorem All2.left_nil (h : All2 R [] m) : m = [] := List.eq_nil_of_length_eq_zero (by rw [← h.1]; rfl)
theorem All2.append (h : All2 R l m) (h1 : All2 R l1 m1) : All2 R (l ++ l1) (m ++ m1) := by
  induction l generalizing m with
  | nil => rw [h.left_nil]; exact h1
  | cons a l ih =>
    obtain ⟨b, m', rfl, hr, ht⟩ := h.left_cons; exact All2.cons hr (ih ht)
theorem All2.drop (h : All2 R l m) (n : Nat) : All2 R (l.drop n) (m.drop n) := ⟨by simp [h.1], fun i a b ha hb => h.2 (n + i) a b (by simpa using ha) (by simpa using hb)⟩
theorem All2.take (h : All2 R l m) (n : Nat) : All2 R (l.take n) (m.take n) := ⟨by simp [h.1], fun i a b ha hb => by
  rw [List.getElem?_take] at ha hb; split at ha
  · rename_i hi
    rw [if_pos hi] at hb; exact h.2 i a b ha hb
  · cases ha⟩
theorem All2.get {i : Nat} (h : All2 R l m) (ha : l[i]? = some a) : ∃ b, m[i]? = some b ∧ R a b := by
  have hi : i < m.length := by rw [← h.1]; exact (List.getElem?_eq_some_iff.1 ha).1
  exact ⟨m[i], List.getElem?_eq_getElem hi, h.2 i a _ ha (List.getElem?_eq_getElem hi)⟩
theorem All2.set {i : Nat} (h : All2 R l m) (hr : R a b) : All2 R (l.set i a) (m.set i b) := ⟨by simp [h.1], fun j x y hx hy => by
  by_cases hij : i = j
  · subst hij; rw [List.getElem?_set_self'] at hx hy
    cases h1 : l[i]? with
    | none => rw [h1] at hx; simp at hx
    | some z =>
      cases h2 : m[i]? with
      | none => rw [h2] at hy; simp at hy
      | some z' =>
        rw [h1] at hx; rw [h2] at hy; simp at hx hy; subst hx hy; exact hr
  · rw [List.getElem?_set_ne hij] at hx hy
    exact h.2 j x y hx hy⟩
end
def rowK (h : List Blk) (id : Nat) : Option K := match h[id]? with
  | some (.row _ k _) => some k
  | some (.frz _ k _) => some k
  | _ => none
def isBox (h : List Blk) (id : Nat) : Bool := match h[id]? with
  | some (.box ..) => true
  | _ => false
def ptrBlk : Value → Option Nat
  | .pointer (some a) => some a.block
  | _ => none
def place (ρ : Nat → Value) (h : List Blk) (id : Nat) : Option Nat := match h[id]? with
  | some (.row ..) => (ρ id).ownBlock
  | some (.box ..) => ptrBlk (ρ id)
  | _ => none
def CR (U : Nat → Prop) (ρ : Nat → Value) (h : List Blk) (w : World) : C → Value → Prop
  | .int k n, v => v = .int k n
  | .bool b, v => v = .bool b
  | .str s, v => v = .string s
  | .row e k xs, v => KS U w (.row e k) xs [v]
  | .nil, v => v = .slice none 0 0
  | .own id, v => v.oneCell' = true ∧ id < h.length ∧ (∀ k, rowK h id = some k → v = ρ id)
  | .sub id lo hi, v => v.oneCell' = true ∧ id < h.length ∧ ∀ k, rowK h id = some k → ∃ A n c, ρ id = .slice A n c ∧ lo ≤ hi ∧ hi ≤ n ∧ n ≤ c ∧ v = .slice (if c = lo then A else A.map (·.add (lo * k.sz))) (hi - lo) (c - lo)
  | .ptr id off, v => v.oneCell' = true ∧ id < h.length ∧ (isBox h id = true → ∃ g, ρ id = .pointer (some ⟨g, 0, none⟩) ∧ v = .pointer (some ⟨g, off, none⟩))
  | .nilp, v => v = .pointer none
  | .at_ k x off, v => ∃ ad cs, v = .pointer (some ad) ∧ KS U w k x cs ∧ ∀ j u, cs[off + j]? = some u → ∀ w', Agree U w w' → w'.cell? (ad.add j) = some u
  | .elt id i off, v => v.oneCell' = true ∧ id < h.length ∧ ∀ k, rowK h id = some k → ∃ g n c, ρ id = .slice (some ⟨g, 0, none⟩) n c ∧ v = .pointer (some ⟨g, i * k.sz + off, none⟩)
  | .fn f caps, v => ∃ vs, v = .func (.func f) #[] vs ∧ All2 (fun id u => u.oneCell' = true ∧ id < h.length ∧ (isBox h id = true → u = ρ id)) caps vs.toList
  | .dead, v => v.oneCell' = true
def PartR (U : Nat → Prop) (ρ : Nat → Value) (h : List Blk) (w : World) (p : Bool × List C) (v : Value) : Prop :=
  if p.1 = true then ∃ cs, v = .agg cs ∧ All2 (CR U ρ h w) p.2 cs.toList else ∃ c, p.2 = [c] ∧ CR U ρ h w c v
def SR (U : Nat → Prop) (ρ : Nat → Value) (h : List Blk) (w : World) : S → Value → Prop
  | .undef, _ => True
  | .one c, v => CR U ρ h w c v
  | .agg l, v => ∃ cs, v = .agg cs ∧ All2 (CR U ρ h w) l cs.toList
  | .tup l, v => ∃ vs, v = .tuple vs ∧ All2 (PartR U ρ h w) l vs.toList
  | .grd b s, v => (b = true → SR U ρ h w s v) ∧ (b = false → v = undef)
  | .raw u, v => v = u
structure Ext (ρ : Nat → Value) (h : List Blk) (ρ1 : Nat → Value) (h1 : List Blk) : Prop where
  len : h.length ≤ h1.length
  row : ∀ id k, id < h.length → rowK h1 id = some k → rowK h id = some k ∧ ρ1 id = ρ id
  box : ∀ id, id < h.length → isBox h1 id = true → isBox h id = true ∧ ρ1 id = ρ id
theorem Ext.refl (ρ : Nat → Value) (h : List Blk) : Ext ρ h ρ h := ⟨Nat.le_refl _, fun _ _ _ hk => ⟨hk, rfl⟩, fun _ _ hk => ⟨hk, rfl⟩⟩
theorem Ext.trans {ρ ρ1 ρ2 : Nat → Value} {h h1 h2 : List Blk} (e : Ext ρ h ρ1 h1) (e1 : Ext ρ1 h1 ρ2 h2) : Ext ρ h ρ2 h2 :=
  ⟨Nat.le_trans e.len e1.len, fun id k hi hk => by
    obtain ⟨a, b⟩ := e1.row id k (Nat.lt_of_lt_of_le hi e.len) hk; obtain ⟨c, d⟩ := e.row id k hi a; exact ⟨c, b.trans d⟩, fun id hi hk => by
    obtain ⟨a, b⟩ := e1.box id (Nat.lt_of_lt_of_le hi e.len) hk; obtain ⟨c, d⟩ := e.box id hi a
    exact ⟨c, b.trans d⟩⟩
section
variable {U U1 : Nat → Prop} {ρ ρ1 : Nat → Value} {h h1 : List Blk} {w w1 : World}
theorem CR.tr (t : Tr U w U1 w1) (e : Ext ρ h ρ1 h1) : ∀ {c : C} {v : Value}, CR U ρ h w c v → CR U1 ρ1 h1 w1 c v
  | .int _ _, _, hc => hc
  | .bool _, _, hc => hc
  | .str _, _, hc => hc
  | .row e k xs, _, hc => KS.tr (k := .row e k) hc t
  | .nil, _, hc => hc
  | .own id, _, ⟨h1, hc⟩ => ⟨h1, Nat.lt_of_lt_of_le hc.1 e.len, fun k hk => by
      obtain ⟨a, b⟩ := e.row id k hc.1 hk
      exact (hc.2 k a).trans b.symm⟩
  | .sub id lo hi, _, ⟨h1, hc⟩ => ⟨h1, Nat.lt_of_lt_of_le hc.1 e.len, fun k hk => by
      obtain ⟨a, b⟩ := e.row id k hc.1 hk
      rw [b]; exact hc.2 k a⟩
  | .ptr id off, _, ⟨h1, hc⟩ => ⟨h1, Nat.lt_of_lt_of_le hc.1 e.len, fun hk => by
      obtain ⟨a, b⟩ := e.box id hc.1 hk
      rw [b]; exact hc.2 a⟩
  | .nilp, _, hc => hc
  | .at_ k x off, _, ⟨ad, cs, hv, hk, hcell⟩ => ⟨ad, cs, hv, hk.tr t, fun j u hu w' hw => hcell j u hu w' (t.agree.trans hw t.less)⟩
  | .elt id i off, _, ⟨h1, hc⟩ => ⟨h1, Nat.lt_of_lt_of_le hc.1 e.len, fun k hk => by
      obtain ⟨a, b⟩ := e.row id k hc.1 hk
      rw [b]; exact hc.2 k a⟩
  | .fn f caps, _, ⟨vs, hv, ha⟩ => ⟨vs, hv, ha.imp fun id u hu => ⟨hu.1, Nat.lt_of_lt_of_le hu.2.1 e.len, fun hk => by
      obtain ⟨a, b⟩ := e.box id hu.2.1 hk
      exact (hu.2.2 a).trans b.symm⟩⟩
  | .dead, _, hc => hc
theorem CR.one : ∀ {c : C} {v : Value}, CR U ρ h w c v → v.oneCell' = true
  | .int _ _, _, hc => by rw [show _ = _ from hc]; rfl
  | .bool _, _, hc => by rw [show _ = _ from hc]; rfl
  | .str _, _, hc => by rw [show _ = _ from hc]; rfl
  | .row e k xs, v, hc => KR.one (k := .row e k) (KS.now (k := .row e k) hc) v (by simp)
  | .nil, _, hc => by rw [show _ = _ from hc]; rfl
  | .own id, _, hc => hc.1
  | .sub id lo hi, _, hc => hc.1
  | .ptr id off, _, hc => hc.1
  | .nilp, _, hc => by rw [show _ = _ from hc]; rfl
  | .at_ k x off, _, ⟨ad, cs, hv, _⟩ => by rw [hv]; rfl
  | .elt id i off, _, hc => hc.1
  | .fn f caps, _, ⟨vs, hv, _⟩ => by rw [hv]; rfl
  | .dead, _, hc => hc
theorem PartR.tr (t : Tr U w U1 w1) (e : Ext ρ h ρ1 h1) {p : Bool × List C} {v : Value} (hp : PartR U ρ h w p v) : PartR U1 ρ1 h1 w1 p v := by
  unfold PartR at *; split
  · rename_i hb
    rw [if_pos hb] at hp; obtain ⟨cs, hv, ha⟩ := hp; exact ⟨cs, hv, ha.imp fun _ _ hc => hc.tr t e⟩
  · rename_i hb
    rw [if_neg hb] at hp; obtain ⟨c, hv, ha⟩ := hp; exact ⟨c, hv, ha.tr t e⟩
theorem SR.tr (t : Tr U w U1 w1) (e : Ext ρ h ρ1 h1) : ∀ {s : S} {v : Value}, SR U ρ h w s v → SR U1 ρ1 h1 w1 s v
  | .undef, _, _ => trivial
  | .one _, _, hc => CR.tr t e hc
  | .agg _, _, ⟨cs, hv, ha⟩ => ⟨cs, hv, ha.imp fun _ _ hc => hc.tr t e⟩
  | .tup _, _, ⟨vs, hv, ha⟩ => ⟨vs, hv, ha.imp fun _ _ hc => hc.tr t e⟩
  | .grd b s, _, hc => ⟨fun hb => SR.tr t e (hc.1 hb), hc.2⟩
  | .raw _, _, hc => hc
theorem flat_CR : ∀ {k : K} {x : k.T} {cs : List Value}, KS U w k x cs → All2 (CR U ρ h w) (k.flat x) cs
  | .int kk, n, cs, hk => by obtain rfl := hk.now; exact All2.cons rfl All2.nil
  | .bool, n, cs, hk => by obtain rfl := hk.now; exact All2.cons rfl All2.nil
  | .str, n, cs, hk => by obtain rfl := hk.now; exact All2.cons rfl All2.nil
  | .unit, n, cs, hk => by obtain rfl := hk.now; exact All2.nil
  | .pair a b, x, cs, hk => by
    obtain ⟨c0, c1, rfl, h0, h1⟩ := KS.pair.1 hk
    exact (flat_CR h0).append (flat_CR h1)
  | .row e a, xs, cs, hk => by
    have hn := hk.now; obtain ⟨A, c, rfl, _⟩ := hn; exact All2.cons hk All2.nil
theorem KS.nil_row (e : Nat) (k : K) : KS U w (.row e k) [] [.slice none 0 0] := fun w' _ => ⟨none, 0, rfl, Nat.le_refl _, rfl, by simp, fun hn => absurd hn (by simp)⟩
theorem fit_KS : ∀ (k : K) {l : List C} {p : k.T × List C} {vs : List Value}, k.fit l = some p → All2 (CR U ρ h w) l vs → KS U w k p.1 (vs.take k.sz) ∧ All2 (CR U ρ h w) p.2 (vs.drop k.sz)
  | .int kk, l, p, vs, hf, ha => by
    unfold K.fit at hf; split at hf
    · split at hf
      · rename_i hkk
        subst hkk; obtain ⟨b, m', rfl, hr, ht⟩ := ha.left_cons; obtain rfl := Option.some.inj hf; exact ⟨fun w' _ => by rw [show b = .int _ _ from hr]; rfl, ht⟩
      · cases hf
    · cases hf
  | .bool, l, p, vs, hf, ha => by
    unfold K.fit at hf; split at hf
    · obtain ⟨b, m', rfl, hr, ht⟩ := ha.left_cons; obtain rfl := Option.some.inj hf; exact ⟨fun w' _ => by rw [show b = .bool _ from hr]; rfl, ht⟩
    · cases hf
  | .str, l, p, vs, hf, ha => by
    unfold K.fit at hf; split at hf
    · obtain ⟨b, m', rfl, hr, ht⟩ := ha.left_cons; obtain rfl := Option.some.inj hf; exact ⟨fun w' _ => by rw [show b = .string _ from hr]; rfl, ht⟩
    · cases hf
  | .unit, l, p, vs, hf, ha => by
    obtain rfl := Option.some.inj hf
    exact ⟨fun w' _ => rfl, ha⟩
  | .pair a b, l, p, vs, hf, ha => by
    have hf : ((a.fit l).bind fun p => (b.fit p.2).bind fun q => some ((p.1, q.1), q.2)) = some p := hf
    cases h1 : a.fit l with
    | none => rw [h1] at hf; cases hf
    | some q1 =>
      rw [h1, Option.bind_some] at hf
      cases h2 : b.fit q1.2 with
      | none => rw [h2] at hf; cases hf
      | some q2 =>
        rw [h2, Option.bind_some] at hf; obtain rfl := Option.some.inj hf; obtain ⟨k1, r1⟩ := fit_KS a h1 ha; obtain ⟨k2, r2⟩ := fit_KS b h2 r1; refine ⟨KS.pair.2 ⟨_, _, ?_, k1, k2⟩, ?_⟩
        · show vs.take (a.sz + b.sz) = _; rw [List.take_add]
        · show All2 _ _ (vs.drop (a.sz + b.sz))
          rw [← List.drop_drop]; exact r2
  | .row e a, l, p, vs, hf, ha => by
    unfold K.fit at hf; split at hf
    · rename_i e' a' xs r
      cases hb : nb e' e with
      | false => rw [hb] at hf; cases hf
      | true =>
        rw [hb] at hf; obtain rfl := nb_eq hb; obtain ⟨ys, hc, rfl⟩ := Option.map_eq_some_iff.1 (show (castRow a' a xs).map (fun ys => (ys, r)) = some p from hf); obtain ⟨rfl, rfl⟩ := castRow_some hc; obtain ⟨b, m', rfl, hr, ht⟩ := ha.left_cons; exact ⟨hr, ht⟩
    · obtain ⟨b, m', rfl, hr, ht⟩ := ha.left_cons; obtain rfl := Option.some.inj hf; refine ⟨?_, ht⟩; rw [show b = _ from hr]; exact KS.nil_row e a
    · cases hf
end
end Go.Den
end
section
-- the texts that this claim needs, out of this session's and its print's (wip/shrink.py)
namespace Go.Den
open Go Go.RowKit
def Lie {α : Type} (R : α → List Value → Prop) (size : Nat) (ps : List α) (cs : List Value) : Prop :=
  cs.length = ps.length * size ∧ ∀ (j : Nat) p, ps[j]? = some p → R p ((cs.drop (j * size)).take size)
theorem Lie.imp {α : Type} {R R' : α → List Value → Prop} {size : Nat} {ps : List α} {cs : List Value} (h : Lie R size ps cs) (hR : ∀ p c, R p c → R' p c) : Lie R' size ps cs := ⟨h.1, fun j p hj => hR _ _ (h.2 j p hj)⟩
def BR (U : Nat → Prop) (ρ : Nat → Value) (h : List Blk) (w : World) (id : Nat) : Blk → Prop
  | .box t l => ∃ g arr, ρ id = .pointer (some ⟨g, 0, none⟩) ∧ w.heap[g]? = some (.cells arr t (0, 0)) ∧ All2 (CR U ρ h w) l arr.toList
  | .row e k xs => ∃ cs, w.ownsRow 0 e k.sz (ρ id) xs.length cs ∧ Lie (KS U w k) k.sz xs cs
  | .frz e k xs => KS U w (.row e k) xs [ρ id]
  | .dead => True
structure HR (U : Nat → Prop) (ρ : Nat → Value) (h : List Blk) (w : World) : Prop where
  blk : ∀ (id : Nat) b, h[id]? = some b → BR U ρ h w id b
  apart : ∀ i j g, place ρ h i = some g → place ρ h j = some g → i = j
  inU : ∀ i g, place ρ h i = some g → U g ∧ g < w.heap.size
theorem place_lt {ρ : Nat → Value} {h : List Blk} {i g : Nat} (hp : place ρ h i = some g) : i < h.length := by
  unfold place at hp; split at hp
  · rename_i he; exact (List.getElem?_eq_some_iff.1 he).1
  · rename_i he; exact (List.getElem?_eq_some_iff.1 he).1
  · cases hp
theorem ownsRow_move {w w1 : World} {base : Nat} {e : TypeId} {size n : Nat} {v : Value} {xs : List Value} (h : w.ownsRow base e size v n xs) (hm : ∀ k, v.ownBlock = some k → w1.heap[k]? = w.heap[k]?) : w1.ownsRow base e size v n xs := by
  obtain ⟨h1, h2⟩ := h; refine ⟨h1, ?_⟩; rcases h2 with h2 | ⟨g, cap, cur, rfl, hg, hh, r⟩
  · exact .inl h2
  · exact .inr ⟨g, cap, cur, rfl, hg, (hm g (by simp [Value.ownBlock])).trans hh, r⟩
theorem BR.tr {U U1 : Nat → Prop} {ρ ρ1 : Nat → Value} {h h1 : List Blk} {w w1 : World} {id : Nat} {b : Blk} (hb : BR U ρ h w id b) (hid : h[id]? = some b) (t : Tr U w U1 w1) (e : Ext ρ h ρ1 h1) (hρ : (∀ x, b ≠ .dead → x = id → ρ1 x = ρ x)) (hp : ∀ g, place ρ h id = some g → w1.heap[g]? = w.heap[g]?) : BR U1 ρ1 h1 w1 id b := by
  cases b with
  | box ty l =>
    obtain ⟨g, arr, h1, h2, h3⟩ := hb; refine ⟨g, arr, (hρ id (by simp) rfl).trans h1, ?_, h3.imp fun _ _ hc => hc.tr t e⟩
    rw [hp g (by simp [place, hid, h1, ptrBlk])]; exact h2
  | row ty k xs =>
    obtain ⟨cs, h1, h2⟩ := hb; refine ⟨cs, ?_, h2.imp fun _ _ hc => hc.tr t⟩; rw [hρ id (by simp) rfl]
    exact ownsRow_move h1 (fun g hg => hp g (by simp [place, hid, hg]))
  | frz ty k xs =>
    show KS U1 w1 _ _ [ρ1 id]; rw [hρ id (by simp) rfl]
    exact KS.tr (k := .row ty k) hb t
  | dead => trivial
structure Cx where
  w0 : World
  U0 : Nat → Prop
  W0 : Nat → Prop
  h0 : List Blk
  ρ0 : Nat → Value
structure St where
  env : List (Nat × S)
  heap : List Blk
  n : Nat
def look : List (Nat × S) → Nat → S
  | [], _ => .undef
  | (t', s) :: r, t => bif nb t' t then s else look r t
def St.get (σ : St) (t : Nat) : S := look σ.env t
structure R0 (cx : Cx) (U : Nat → Prop) (ρ : Nat → Value) (σ : St) (a : Act) (w : World) : Prop where
  size : a.tmps.size = σ.n
  defers : a.defers = []
  env : ∀ t, SR U ρ σ.heap w (σ.get t) (a.tmps.getD t undef)
  hr : HR U ρ σ.heap w
  agree : Agree cx.W0 cx.w0 w
  newU : ∀ b, b < cx.w0.heap.size → U b → cx.U0 b
  oldU : ∀ b, b < cx.w0.heap.size → cx.U0 b → U b ∨ cx.W0 b
  places : ∀ i g, place ρ σ.heap i = some g → cx.W0 g ∨ cx.w0.heap.size ≤ g
  ext : Ext cx.ρ0 cx.h0 ρ σ.heap
def R (cx : Cx) (σ : St) (a : Act) (w : World) : Prop := ∃ U ρ, R0 cx U ρ σ a w
def Wr (ρ : Nat → Value) (h : List Blk) (b : Nat) : Prop := ∃ i, place ρ h i = some b
structure Go1 (U : Nat → Prop) (ρ : Nat → Value) (h : List Blk) (w : World) (U1 : Nat → Prop) (ρ1 : Nat → Value) (h1 : List Blk) (w1 : World) : Prop where
  agree : Agree (Wr ρ h) w w1
  less : ∀ b, b < w.heap.size → U1 b → U b
  keep : ∀ b, b < w.heap.size → U b → U1 b ∨ Wr ρ h b
  hr : HR U1 ρ1 h1 w1
  ext : Ext ρ h ρ1 h1
  places : ∀ i g, place ρ1 h1 i = some g → Wr ρ h g ∨ w.heap.size ≤ g
section
variable {cx : Cx} {U U1 : Nat → Prop} {ρ ρ1 : Nat → Value} {σ : St} {h h1 : List Blk} {a : Act} {w w1 : World}
theorem Go1.tr (hr : HR U ρ h w) (g : Go1 U ρ h w U1 ρ1 h1 w1) : Tr U w U1 w1 := ⟨g.agree.mono fun b _ ⟨i, hi⟩ => (hr.inU i b hi).1, g.less⟩
theorem Go1.refl (hr : HR U ρ h w) : Go1 U ρ h w U ρ h w := ⟨Agree.refl _ _, fun _ _ h => h, fun _ _ h => .inl h, hr, Ext.refl _ _, fun i g hg => .inl ⟨i, hg⟩⟩
theorem R0.step (r : R0 cx U ρ σ a w) (g : Go1 U ρ σ.heap w U1 ρ1 h1 w1) : R0 cx U1 ρ1 { σ with heap := h1 } a w1 where
  size := r.size
  defers := r.defers
  env t := (r.env t).tr (g.tr r.hr) g.ext
  hr := g.hr
  agree := r.agree.trans g.agree fun b hb ⟨i, hi⟩ => (r.places i b hi).resolve_right (by omega)
  newU b hb hu := r.newU b hb (g.less b (Nat.lt_of_lt_of_le hb r.agree.size) hu)
  oldU b hb hu := by
    rcases r.oldU b hb hu with h | h
    · rcases g.keep b (Nat.lt_of_lt_of_le hb r.agree.size) h with h | ⟨i, hi⟩
      · exact .inl h
      · exact .inr ((r.places i b hi).resolve_right (by omega))
    · exact .inr h
  places i b hb := by
    rcases g.places i b hb with ⟨j, hj⟩ | hj
    · exact r.places j b hj
    · exact .inr (Nat.le_trans r.agree.size hj)
  ext := r.ext.trans g.ext
theorem getD_put_ne {a : Act} {d t : Nat} {v : Value} (h : d ≠ t) : (a.put (some d) v).tmps.getD t undef = a.tmps.getD t undef := by
  simp [Act.put, Array.getElem?_setIfInBounds_ne h]
theorem R0.put (r : R0 cx U ρ σ a w) {d : Nat} {s : S} {v : Value} (hd : d < σ.n) (hs : SR U ρ σ.heap w s v) : R0 cx U ρ { σ with env := (d, s) :: σ.env } (a.put (some d) v) w where
  size := by simp [Act.put]; exact r.size
  defers := r.defers
  env t := by
    show SR U ρ σ.heap w (bif nb d t then s else look σ.env t) _
    cases hdt : nb d t with
    | true =>
      obtain rfl := nb_eq hdt
      have : (a.put (some d) v).tmps.getD d undef = v := by
        have hz : d < a.tmps.size := by rw [r.size]; exact hd
        simp [Act.put, hz]
      rw [this]; exact hs
    | false =>
      rw [getD_put_ne (nb_ne hdt)]; exact r.env t
  hr := r.hr
  agree := r.agree
  newU := r.newU
  oldU := r.oldU
  places := r.places
  ext := r.ext
end
section
variable {U U1 : Nat → Prop} {ρ ρ1 : Nat → Value} {h h1 : List Blk} {w w1 : World}
def upd (ρ : Nat → Value) (n : Nat) (v : Value) : Nat → Value := fun i => bif nb i n then v else ρ i
theorem upd_at (ρ : Nat → Value) (n : Nat) (v : Value) : upd ρ n v n = v := by unfold upd; rw [show nb n n = true from nb_refl n]; rfl
theorem upd_ne {ρ : Nat → Value} {n i : Nat} {v : Value} (h : i ≠ n) : upd ρ n v i = ρ i := by
  unfold upd; have : nb i n = false := by cases hb : nb i n; rfl; exact absurd (nb_eq hb) h
  rw [this]; rfl
theorem get_push_lt {h : List Blk} {b : Blk} {i : Nat} (hi : i < h.length) : (h ++ [b])[i]? = h[i]? := List.getElem?_append_left hi
theorem get_push (h : List Blk) (b : Blk) : (h ++ [b])[h.length]? = some b := by simp
theorem rowK_push_lt {h : List Blk} {b : Blk} {i : Nat} (hi : i < h.length) : rowK (h ++ [b]) i = rowK h i := by unfold rowK; rw [get_push_lt hi]
theorem isBox_push_lt {h : List Blk} {b : Blk} {i : Nat} (hi : i < h.length) : isBox (h ++ [b]) i = isBox h i := by unfold isBox; rw [get_push_lt hi]
theorem place_push_lt {b : Blk} {v : Value} {i : Nat} (hi : i < h.length) : place (upd ρ h.length v) (h ++ [b]) i = place ρ h i := by
  unfold place; rw [get_push_lt hi, upd_ne (Nat.ne_of_lt hi)]
theorem Ext.push (ρ : Nat → Value) (h : List Blk) (b : Blk) (v : Value) : Ext ρ h (upd ρ h.length v) (h ++ [b]) :=
  ⟨by simp, fun id k hi hk => ⟨by rwa [rowK_push_lt hi] at hk, upd_ne (Nat.ne_of_lt hi)⟩, fun id hi hk => ⟨by rwa [isBox_push_lt hi] at hk, upd_ne (Nat.ne_of_lt hi)⟩⟩
theorem Go1.push {b : Blk} {v : Value} {g : Option Nat} (hr : HR U ρ h w) (ag : Agree (fun _ => False) w w1) (hpl : place (upd ρ h.length v) (h ++ [b]) h.length = g) (hg : ∀ x, g = some x → w.heap.size ≤ x ∧ x < w1.heap.size)
    (hb : ∀ U1, Tr U w U1 w1 → (∀ x, g = some x → U1 x) → BR U1 (upd ρ h.length v) (h ++ [b]) w1 h.length b) : Go1 U ρ h w (fun x => (U x ∧ x < w.heap.size) ∨ g = some x) (upd ρ h.length v) (h ++ [b]) w1 := by
  have less : ∀ x, x < w.heap.size → ((U x ∧ x < w.heap.size) ∨ g = some x) → U x := fun x hx hu => hu.elim (·.1) (fun e => absurd (hg x e).1 (by omega)); have tr : Tr U w (fun x => (U x ∧ x < w.heap.size) ∨ g = some x) w1 := ⟨ag.mono (fun _ _ h => h.elim), less⟩
  have hk : ∀ x, x < w.heap.size → w1.heap[x]? = w.heap[x]? := fun x hx => ag.block x hx (fun h => h); refine ⟨ag.mono (fun _ _ h => h.elim), less, fun x hx hu => .inl (.inl ⟨hu, hx⟩), ⟨fun id b' hid => ?_, fun i j x hi hj => ?_, fun i x hi => ?_⟩, Ext.push _ _ _ _, fun i x hi => ?_⟩
  · rcases Nat.lt_or_ge id h.length with hl | hl
    · rw [get_push_lt hl] at hid; exact (hr.blk id b' hid).tr hid tr (Ext.push _ _ _ _) (fun x _ e => by subst e; exact upd_ne (Nat.ne_of_lt hl)) (fun x hx => hk x (hr.inU id x hx).2)
    · have hl2 : id < (h ++ [b]).length := (List.getElem?_eq_some_iff.1 hid).1; obtain rfl : id = h.length := by simp at hl2; omega
      rw [get_push] at hid; obtain rfl := Option.some.inj hid; exact hb _ tr (fun x hx => .inr hx)
  · have li := place_lt hi; have lj := place_lt hj; simp at li lj; rcases Nat.lt_or_ge i h.length with h1 | h1 <;> rcases Nat.lt_or_ge j h.length with h2 | h2
    · rw [place_push_lt h1] at hi; rw [place_push_lt h2] at hj; exact hr.apart i j x hi hj
    · rw [place_push_lt h1] at hi; obtain rfl : j = h.length := by omega
      have := (hg x (hpl.symm.trans hj)).1; have := (hr.inU i x hi).2; omega
    · rw [place_push_lt h2] at hj; obtain rfl : i = h.length := by omega
      have := (hg x (hpl.symm.trans hi)).1; have := (hr.inU j x hj).2; omega
    · omega
  · have li := place_lt hi; simp at li; rcases Nat.lt_or_ge i h.length with h1 | h1
    · rw [place_push_lt h1] at hi; have := hr.inU i x hi; exact ⟨.inl this, Nat.lt_of_lt_of_le this.2 ag.size⟩
    · obtain rfl : i = h.length := by omega
      exact ⟨.inr (hpl.symm.trans hi), (hg x (hpl.symm.trans hi)).2⟩
  · have li := place_lt hi; simp at li; rcases Nat.lt_or_ge i h.length with h1 | h1
    · rw [place_push_lt h1] at hi; exact .inl ⟨i, hi⟩
    · obtain rfl : i = h.length := by omega
      exact .inr (hg x (hpl.symm.trans hi)).1
theorem get_set_ne {h : List Blk} {b : Blk} {i j : Nat} (hij : i ≠ j) : (h.set i b)[j]? = h[j]? := List.getElem?_set_ne hij
theorem get_set {h : List Blk} {b : Blk} {i : Nat} (hi : i < h.length) : (h.set i b)[i]? = some b := by simp [hi]
theorem Go1.set {id : Nat} {b b1 : Blk} (hr : HR U ρ h w) (hid : h[id]? = some b) (ag : Agree (fun x => place ρ h id = some x) w w1) (hk : ∀ k, rowK (h.set id b1) id = some k → rowK h id = some k) (hx : isBox (h.set id b1) id = true → isBox h id = true) (hpl : ∀ g, place ρ (h.set id b1) id = some g → place ρ h id = some g)
    (U1 : Nat → Prop) (less : ∀ x, x < w.heap.size → U1 x → U x) (keep : ∀ x, x < w.heap.size → U x → U1 x ∨ place ρ h id = some x) (hin : ∀ g, place ρ (h.set id b1) id = some g → U1 g)
    (hb : Tr U w U1 w1 → Ext ρ h ρ (h.set id b1) → BR U1 ρ (h.set id b1) w1 id b1) : Go1 U ρ h w U1 ρ (h.set id b1) w1 := by
  have hl : id < h.length := (List.getElem?_eq_some_iff.1 hid).1
  have ex : Ext ρ h ρ (h.set id b1) := by
    refine ⟨by simp, fun i k hi hk' => ⟨?_, rfl⟩, fun i hi hk' => ⟨?_, rfl⟩⟩
    · by_cases e : id = i
      · subst e; exact hk k hk'
      · simpa [rowK, get_set_ne e] using hk'
    · by_cases e : id = i
      · subst e; exact hx hk'
      · simpa [isBox, get_set_ne e] using hk'
  have tr : Tr U w U1 w1 := ⟨ag.mono (fun x _ hx => (hr.inU id x hx).1), less⟩
  have hplace : ∀ i, id ≠ i → place ρ (h.set id b1) i = place ρ h i := fun i e => by simp [place, get_set_ne e]
  have hp' : ∀ i g, place ρ (h.set id b1) i = some g → place ρ h i = some g := fun i g hg => by
    by_cases e : id = i
    · subst e; exact hpl g hg
    · rwa [hplace i e] at hg
  refine ⟨ag.mono (fun x _ hx => ⟨id, hx⟩), less, fun x hx hu => (keep x hx hu).imp (fun h => h) (fun h => ⟨id, h⟩), ⟨fun i b' hi => ?_, fun i j x hi hj => hr.apart i j x (hp' i x hi) (hp' j x hj), fun i x hi => ?_⟩, ex, fun i x hi => .inl ⟨i, hp' i x hi⟩⟩
  · by_cases e : id = i
    · subst e; rw [get_set hl] at hi; obtain rfl := Option.some.inj hi; exact hb tr ex
    · rw [get_set_ne e] at hi; refine (hr.blk i b' hi).tr hi tr ex (fun _ _ _ => rfl) (fun g hg => ag.block g (hr.inU i g hg).2 (fun hx => e (hr.apart id i g hx hg)))
  · have hp := hp' i x hi; have hu := hr.inU i x hp; refine ⟨?_, Nat.lt_of_lt_of_le hu.2 ag.size⟩
    by_cases e : id = i
    · subst e; exact hin x hi
    · rcases keep x hu.2 hu.1 with h | h
      · exact h
      · exact absurd (hr.apart id i x h hp) e
theorem Go1.trans {U2 : Nat → Prop} {ρ2 : Nat → Value} {h2 : List Blk} {w2 : World} (g : Go1 U ρ h w U1 ρ1 h1 w1) (g1 : Go1 U1 ρ1 h1 w1 U2 ρ2 h2 w2) : Go1 U ρ h w U2 ρ2 h2 w2 := by
  have hw : ∀ b, b < w.heap.size → Wr ρ1 h1 b → Wr ρ h b := fun b hb ⟨i, hi⟩ => (g.places i b hi).resolve_right (by omega); refine ⟨g.agree.trans g1.agree hw, fun b hb hu => g.less b hb (g1.less b (Nat.lt_of_lt_of_le hb g.agree.size) hu), fun b hb hu => ?_, g1.hr, g.ext.trans g1.ext, fun i x hi => ?_⟩
  · rcases g.keep b hb hu with h | h
    · exact (g1.keep b (Nat.lt_of_lt_of_le hb g.agree.size) h).imp (fun h => h) (hw b hb)
    · exact .inr h
  · rcases g1.places i x hi with ⟨j, hj⟩ | hj
    · exact g.places j x hj
    · exact .inr (Nat.le_trans g.agree.size hj)
end
end Go.Den
end
