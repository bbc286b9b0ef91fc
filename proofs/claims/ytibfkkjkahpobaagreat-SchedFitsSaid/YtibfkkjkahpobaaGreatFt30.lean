import Derived.Test.YtibfkkjkahpobaaGreatFt29
import Derived.Test.YtibfkkjkahpobaaGreatFt23
import Derived.Test.YtibfkkjkahpobaaGreatFt16
import Derived.Test.YtibfkkjkahpobaaGreatFt24
import Derived.Test.YtibfkkjkahpobaaGreatFt25
import Derived.Test.YtibfkkjkahpobaaGreatFt26
import Derived.Test.YtibfkkjkahpobaaGreatFt28
set_option linter.unusedVariables false
set_option linter.unusedSimpArgs false
set_option maxHeartbeats 8000000
set_option maxRecDepth 100000
section
namespace Go.Proofs.YtibfkkjkahpobaaGreat.PDag
open Go.RowKit Go.Proofs.YtibfkkjkahpobaaGreatW.PrintWords Go.Proofs.YtibfkkjkahpobaaGreatW.PrintLast Go.Proofs.YtibfkkjkahpobaaGreatW.PrintMore
attribute [local go_sem] Oper.semAt_some
def bundles84.T8 : Bool × List (List Nat × List Nat) := (true, [([], []), ([], []), ([1], [1]), ([2], [2]), ([3], [3]), ([], []), ([4, 5], [4, 5]), ([6], [6]), ([], []), ([8], [8]), ([9], [9]), ([10], [10]), ([], []), ([11, 12], [11, 12]), ([13], [13]), ([], []), ([0, 7], [0, 7]), ([16, 14, 0, 1, 2, 3, 4, 5, 6, 7, 8, 9, 10, 11, 12, 13, 14, 15], [14, 16]), ([17, 15, 0, 1, 2, 3, 4, 5, 6, 7, 8, 9, 10, 11, 12, 13, 14, 15], [15, 17])])
def bundles84.B8 : List Nat := [0, 0, 2, 6, 14, 0, 62, 126, 0, 256, 768, 1792, 0, 7936, 16128, 0, 255, 131071, 262143]
theorem bundles84.tab8 : rtab .any (opsOf Tryz.f32 8) = bundles84.T8 := by kernel_rfl
theorem bundles84.bits8 : waitsOk bundles84.T8.2 bundles84.B8 = true := by kernel_rfl
def bundles84.T11 : Bool × List (List Nat × List Nat) := (true, [([], []), ([], []), ([], []), ([2], [2]), ([0, 1], [0, 1]), ([4, 0, 1, 2, 3], [4]), ([5, 3, 0, 1, 2, 3], [3, 5])])
def bundles84.B11 : List Nat := [0, 0, 0, 4, 3, 31, 63]
theorem bundles84.tab11 : rtab .any (opsOf Tryz.f32 11) = bundles84.T11 := by kernel_rfl
theorem bundles84.bits11 : waitsOk bundles84.T11.2 bundles84.B11 = true := by kernel_rfl
theorem slot_store {B g n cap : Nat} {W : World} {xs : List S62} (h : k62.R 62 W B (fun _ => True) (.slice (some ⟨g, 0, none⟩) n cap) xs) (i : Nat) (hi : i < n) (s : Nat) (hs : s < 4) (x : S24) :
    k62.R 62 (W.setCells g (i * 24 + s * 6) (insC x)) B (fun _ => True) (.slice (some ⟨g, 0, none⟩) n cap) (xs.set i (put81 (J62 xs i) s x)) ∧ W.grownBy (W.setCells g (i * 24 + s * 6) (insC x)) (some g) ∧
    (Instr.storeAt 24 (.pointer (some ⟨g, i * 24 + s * 6, none⟩)) (.agg (insC x).toArray)).run Tryz.prog W = .ok () (W.setCells g (i * 24 + s * 6) (insC x)) := by
  obtain ⟨c, hcl, hM, hcc, hfr⟩ := Kd.R_elem h z62 (i : Int) (by omega) (by omega); have hb : J62 xs (i : Int) = xs.getD (i : Int).toNat z62 := rfl; rw [Int.toNat_natCast] at hcc hfr hM; rw [Int.toNat_natCast] at hb; rw [← hb] at hM; generalize J62 xs (i : Int) = b at hM hb; obtain rfl := k62_openM hM; rw [show k62.sz = 24 from rfl] at hcc hfr hcl
  have hcell : ∀ j, j < 24 → ∃ u, W.cell? ⟨g, i * 24 + j, none⟩ = some u := fun j hj => by
    have h2 := List.getElem?_eq_getElem (l := bunC b) (i := j) (by exact hj); exact ⟨_, hcc j _ h2⟩
  have hone : ∀ q ∈ insC x, q.oneCell' = true := by
    intro q hq; simp only [insC, List.mem_cons, List.not_mem_nil, or_false] at hq; rcases hq with rfl | rfl | rfl | rfl | rfl | rfl <;> rfl
  have hseg : ∀ (s : Nat) (x' : S62), s < 4 → k62.M W B (fun _ => False) x' ((bunC b).take (s * 6) ++ insC x ++ (bunC b).drop (s * 6 + 6)) → k62.R 62 (W.setCells g (i * 24 + s * 6) (insC x)) B (fun _ => True) (.slice (some ⟨g, 0, none⟩) n cap) (xs.set i x') ∧ W.grownBy (W.setCells g (i * 24 + s * 6) (insC x)) (some g) := by
    intro s x' hs hM'; have h2 := Kd.R_seg h (i : Int) (by omega) (by omega) (c := bunC b) (seg := insC x) (j := s * 6) (okp := fun _ => False) (x' := x') rfl (by rw [Int.toNat_natCast]; exact hcc) (by show s * 6 + 6 ≤ 24; omega) hM' (fun _ hk => hk.elim); rw [Int.toNat_natCast] at h2; exact h2
  have hrun : (Instr.storeAt 24 (.pointer (some ⟨g, i * 24 + s * 6, none⟩)) (.agg (insC x).toArray)).run Tryz.prog W = .ok () (W.setCells g (i * 24 + s * 6) (insC x)) := by
    obtain ⟨i0, hi0, hz⟩ := Option.map_eq_some_iff.1 info24; simp only [Prod.mk.injEq] at hz
    have hst := run_storeCells_cells (P := Tryz.prog) g (i * 24 + s * 6) (insC x) 0 W (fun j hj => by
      obtain ⟨u, hu⟩ := hcell (s * 6 + j) (by have h6 : j < 6 := hj; omega)
      rw [show i * 24 + s * 6 + 0 + j = i * 24 + (s * 6 + j) by omega, hu]; simp) (fun j _ => by
      have h2 := hfr (s * 6 + j)
      rw [show i * 24 + s * 6 + 0 + j = i * 24 + (s * 6 + j) by omega]; exact h2) hone
    simp only [Nat.add_zero] at hst; simp [Instr.storeAt, Instr.sureAddr, storeVar, sizeOf, typeInfo, hi0, hz.2.1, hst, Value.cells, insC]; exact hst
  have : s = 0 ∨ s = 1 ∨ s = 2 ∨ s = 3 := by omega
  rcases this with rfl | rfl | rfl | rfl
  · have h2 := hseg 0 (put81 b ((0 : Nat) : Int) x) (by omega) (k62_mkM W B _ (put81 b ((0 : Nat) : Int) x)); exact ⟨h2.1, h2.2, hrun⟩
  · have h2 := hseg 1 (put81 b ((1 : Nat) : Int) x) (by omega) (k62_mkM W B _ (put81 b ((1 : Nat) : Int) x)); exact ⟨h2.1, h2.2, hrun⟩
  · have h2 := hseg 2 (put81 b ((2 : Nat) : Int) x) (by omega) (k62_mkM W B _ (put81 b ((2 : Nat) : Int) x)); exact ⟨h2.1, h2.2, hrun⟩
  · have h2 := hseg 3 (put81 b ((3 : Nat) : Int) x) (by omega) (k62_mkM W B _ (put81 b ((3 : Nat) : Int) x)); exact ⟨h2.1, h2.2, hrun⟩
theorem last_end (l : List S24) (x : S24) (ho : okA l) (hn : l.length ≤ 200) (hx : 0 ≤ x.f0 ∧ x.f0 ≤ 33) {B g : Nat} {Al : Option Addr} {cl : Nat} {va vs : Value} {W : World} {ok : Nat → Prop} (hE : PEnd B g Al cl l.length va vs (cycF l).at_ (cycF l).sl W) (hF : Kd.F k24 W ok Al l.length l) (hcl : l.length ≤ cl) (c : Int) (L : Nat) (hcL : endC l x = (c, (L : Int))) :
    Calls Tryz.prog 61 #[.pointer (some ⟨g, 0, none⟩), .agg #[.int .i64 x.f0, .int .i64 x.f1, .int .i64 x.f2, .int .i64 x.f3, .int .i64 x.f4, .string x.f5]] W fun e w' => e = .returned (.tuple #[.int .i64 c, .int .i64 L]) ∧ Below W.heap.size W w' := by
  obtain ⟨v1, v2, v3, v6, hbx⟩ := hE.box; have hra := hE.ra; have hrs := hE.rs; obtain ⟨hla, hls⟩ := cyc_len ho; obtain ⟨Aa, ca, rfl⟩ := Kd.R_slice hra; obtain ⟨As, cs, rfl⟩ := Kd.R_slice hrs; rw [hla] at hra hbx; rw [hls] at hrs hbx; obtain ⟨_, hca, hCa⟩ := Kd.R_reads' hra; obtain ⟨_, hcs, hCs⟩ := Kd.R_reads' hrs; rw [hla] at hCa; rw [hls] at hCs; have hat : ∀ i : Nat, i < l.length → 0 ≤ rd (cycF l).at_ i ∧ rd (cycF l).at_ i ≤ 799 := fun i hi => (cyc_in ho hn i hi).1; have hlo := lastOf_bd x l (cycF l).at_ hat; refine (last_calls g _ Al Aa As cl ca cs l (cycF l).at_ (cycF l).sl x (lastOf l x (cycF l).at_) 1000 W hbx rfl rfl rfl (Kd.F_now hF) hCa hCs hcl hca hn (okA_L ho) hla (fun k hk => least_eq l (by omega) (okA_L ho) x hx _ hla (by omega)) ⟨hlo.1, by omega⟩ (by omega) (freeFrom_free _ _ _ 799 (fun i hi => (hat i hi).2) 1000 _ (by omega))).mono ?_; rintro e w' ⟨rfl, hb⟩; refine ⟨?_, hb⟩; unfold endC at hcL; split at hcL
  · rename_i h
    injection hcL with h1 h2
    rw [if_pos h, ← h1, ← h2]
  · rename_i h
    injection hcL with h1 h2
    rw [if_neg h, ← h1, ← h2]
theorem R81_shape {n0 : Nat} {W : World} {base : Nat} {ok : Nat → Prop} {v : Value} {xs : List S62} (h : k62.R 62 W base ok v xs) (hn : ∃ b, v.ownBlock = some b ∧ n0 ≤ b) : ∃ g cap, v = .slice (some ⟨g, 0, none⟩) xs.length cap ∧ n0 ≤ g := by
  obtain ⟨b, hb, hle⟩ := hn; obtain ⟨inner, ho⟩ := Kd.R_own h; rcases ho.2 with ⟨rfl, _⟩ | ⟨g, cap, cur, rfl, _⟩
  · simp [Value.ownBlock] at hb
  · have hg : g = b := by simpa [Value.ownBlock] using hb
    subst hg; exact ⟨g, cap, rfl, hle⟩
theorem sched_Bundles.calls (A0 : Option Addr) (nl c0 : Nat) (Al : Option Addr) (cl : Nat) (l : List S24) (x : S24) (w : World) (hl : Kd.C k24 w Al l.length l) (hcl : l.length ≤ cl) (ho : okA l) (hn : l.length ≤ 200) (hx : 0 ≤ x.f0 ∧ x.f0 ≤ 33) :
    Calls Tryz.prog 32 #[.agg #[.slice A0 nl c0, .slice Al l.length cl, .int .i64 x.f0, .int .i64 x.f1, .int .i64 x.f2, .int .i64 x.f3, .int .i64 x.f4, .string x.f5]] w fun e w' => ∃ v0_ : Value, e = .returned (v0_) ∧ Kd.R k62 62 w' w.heap.size (fun _ => True) v0_ (bunF l x) ∧ Below w.heap.size w w' := by
  have hu41 := Tryz.underlying41; have hu24 := Tryz.underlying24; have HL := aM_ hl; have HO := aM_ ho
  have HP := aM_ (fun W hW => planned_calls 50000 Al cl l (edges l) (urges l) (heights l) W (Kd.C_below hl hW) hcl hn (urges_len l) (heights_len l) (by have := edges_few l hn; omega) (fun j hj => by
    rw [rd51_at _ _ hj]; obtain ⟨a, t, e0, e1, hat, htn⟩ := edges_range l _ _ _ (List.getElem_mem hj)
    rw [e1]; omega) (own_edges l hn (okA_L ho) (Nat.le_refl _)) (urge_eq (by omega) l hn ho) (high_eq (by omega) l hn ho))
  have hbd := endC_bd ho hn x; obtain ⟨c, L0, hcL0⟩ : ∃ c L, endC l x = (c, L) := ⟨_, _, rfl⟩
  rw [hcL0] at hbd; simp only at hbd; obtain ⟨L, rfl⟩ := Int.eq_ofNat_of_zero_le hbd.1; have hlong1 : L ≤ 2000 := by have := hbd.2.1; omega
  have HCL := aM_ hcL0; have HBD := aM_ hbd; clear hl ho hbd hcL0; go_enter Tryz.func32, Tryz.ntmps32
  go_wp2_with (first | ((with_reducible refine gate_dst (N := 1) rfl ?_); refine bX_ (N := 1) (cs := #[.slice A0 nl c0, .slice Al l.length cl, .int .i64 x.f0, .int .i64 x.f1, .int .i64 x.f2, .int .i64 x.f3, .int .i64 x.f4, .string x.f5]) (t := 41) ?_; intro gb hgb w1 hbox hb; have x1 : w1.cell? ⟨gb, 1, none⟩ = some (.slice Al l.length cl) := (bC_ hbox 1).trans rfl; have BX := aM_ hbox; have HB := aM_ hb; have GB := aM_ (show w.heap.size ≤ gb from by rw [hgb]; exact Nat.le_refl _); clear hbox hb hgb) | (go_at_call 34; refine (HP.out _ HB.out).mono ?_; rintro e w2 ⟨B, g, A12, A15, A18, A21, c12, c15, c18, c21, vA, rfl, hB1, hBg, hPLI, hF, hb⟩; have HB1 := aM_ (Nat.le_trans HB.out.size hB1); have HB1' := aM_ hB1; have HBG := aM_ hBg; have HPL := aM_ hPLI; have HF := aM_ hF; have HB2 := aM_ (HB.out.trans (hb.mono HB.out.size)); have BX2 := aM_ (kB_ BX.out hb); clear hB1 hBg hPLI hF hb x1) | (go_at_call 35; refine (ran_calls l HO.out hn HPL.out HF.out HBG.out (Nat.le_of_lt (Nat.lt_of_le_of_lt HBG.out (blk_lt HPL.out.box)))).mono ?_; rintro e w3 ⟨⟨v9, rfl⟩, ⟨va, vs, hE⟩, hb⟩; have BX3 := aM_ ((hb.block gb (Nat.lt_of_lt_of_le (blk_lt BX.out) HB1'.out)).trans BX2.out); have HB3 := aM_ (HB2.out.trans (hb.mono HB1.out)); have HE := aM_ hE; have HF3 := aM_ (Kd.F_step HF.out (fun k_ hk _ => hb.block k_ hk)); clear hE hb; have y2 : w3.cell? ⟨gb, 2, none⟩ = some (.int .i64 x.f0) := (bC_ BX3.out 2).trans rfl; have y3 : w3.cell? ⟨gb, 3, none⟩ = some (.int .i64 x.f1) := (bC_ BX3.out 3).trans rfl; have y4 : w3.cell? ⟨gb, 4, none⟩ = some (.int .i64 x.f2) := (bC_ BX3.out 4).trans rfl; have y5 : w3.cell? ⟨gb, 5, none⟩ = some (.int .i64 x.f3) := (bC_ BX3.out 5).trans rfl; have y6 : w3.cell? ⟨gb, 6, none⟩ = some (.int .i64 x.f4) := (bC_ BX3.out 6).trans rfl; have y7 : w3.cell? ⟨gb, 7, none⟩ = some (.string x.f5) := (bC_ BX3.out 7).trans rfl) | (go_at_call 61; refine (last_end l x HO.out hn hx HE.out HF3.out hcl c L HCL.out).mono ?_; rintro e w4 ⟨rfl, hb⟩; have HB4 := aM_ (HB3.out.trans (hb.mono HB3.out.size)); have HB45 := aM_ hb; clear hb y2 y3 y4 y5 y6 y7) | ((with_reducible refine gate_dst (N := 22) rfl ?_); refine Kd.R_make k62 _ 62 rfl (N := 22) rfl 35 _ _ rfl (L : Int) rfl rfl Tryz.underlying35 (.agg #[(.int .i64 0), (.int .i64 0), (.int .i64 0), (.int .i64 0), (.int .i64 0), (.string ⟨#[]⟩), (.int .i64 0), (.int .i64 0), (.int .i64 0), (.int .i64 0), (.int .i64 0), (.string ⟨#[]⟩), (.int .i64 0), (.int .i64 0), (.int .i64 0), (.int .i64 0), (.int .i64 0), (.string ⟨#[]⟩), (.int .i64 0), (.int .i64 0), (.int .i64 0), (.int .i64 0), (.int .i64 0), (.string ⟨#[]⟩)]) 224 info62 rfl (by decide) (by omega) z62 (ok := fun _ => True) (okp := fun _ => True) (k62_mkM _ _ _ z62) (fun _ hk => hk) trivial (Int.natCast_nonneg _) (by omega) (Below.refl _ _) (Nat.le_refl _) ?_; intro vc w5 hR5 hb5 _ hn5; rw [Int.toNat_natCast] at hR5; obtain ⟨gc, cap, hvc, hgc⟩ := R81_shape hR5 hn5; subst hvc; rw [List.length_replicate] at hR5; have HR5 := aM_ hR5; have HB5 := aM_ hb5; have HGC := aM_ hgc; have BX5 := aM_ (kB_ (kB_ BX3.out HB45.out) hb5); have x15 : w5.cell? ⟨gb, 1, none⟩ = some (.slice Al l.length cl) := (bC_ BX5.out 1).trans rfl; clear hR5 hb5 hn5 hgc))
  obtain ⟨v1, v2, v3, v6, hbE⟩ := HE.out.box; have hra := HE.out.ra; have hrs := HE.out.rs; obtain ⟨hla, hls⟩ := cyc_len HO.out; obtain ⟨Aa, ca, hva⟩ := Kd.R_slice hra; obtain ⟨As, cs, hvs⟩ := Kd.R_slice hrs; subst hva; subst hvs; rw [hla] at hra hbE; rw [hls] at hrs hbE; have hCa := (Kd.R_reads' hra).2.2; have hCs := (Kd.R_reads' hrs).2.2; rw [hla] at hCa; rw [hls] at hCs; have BE := aM_ (kB_ hbE HB45.out); have CA := aM_ (Kd.C_below hCa HB45.out); have CS := aM_ (Kd.C_below hCs HB45.out); have CL := aM_ (Kd.C_below (Kd.F_now HF3.out) HB45.out); have BX4 := aM_ (kB_ BX3.out HB45.out); have HIN := aM_ (fun i hi => cyc_in HO.out hn i hi); clear hra hrs hbE hCa hCs hla hls HE HF3 HF HPL HP BX BX2 BX3 BX5 x15 HB1' HBG
  go_loopw [26] (fun i wr => ∃ j : Nat, j ≤ l.length ∧ i = .int .i64 j ∧ As_ (Kd.R k62 62 wr w4.heap.size (fun _ => True) (.slice (some ⟨gc, 0, none⟩) L cap) (bunUp l (cycF l).at_ (cycF l).sl (List.replicate L z62) j)) ∧ As_ (Below w4.heap.size w4 wr)) (fun i _ => l.length - (intOf i).toNat)
  case atStart => exact ⟨0, Nat.zero_le _, rfl, ⟨HR5.out⟩, ⟨HB5.out⟩⟩
  case round =>
    clear HR5 HB5; obtain ⟨j, hj, rfl, HR, HB⟩ := hrel
    by_cases hlt : j < l.length
    · obtain ⟨ad, e1, hx0, hx1, hx2, hx3, hx4, hx5⟩ := at_T24 (Kd.C_below CL.out HB.out) (j : Int) (Int.natCast_nonneg _) (by omega); subst e1; obtain ⟨ada, e2, ha⟩ := Kd.at_int (Kd.C_below CA.out HB.out) (j : Int) (Int.natCast_nonneg _) (by omega); subst e2; obtain ⟨ads, e3, hs⟩ := Kd.at_int (Kd.C_below CS.out HB.out) (j : Int) (Int.natCast_nonneg _) (by omega); subst e3; rw [Int.toNat_natCast] at hx0 hx1 hx2 hx3 hx4 hx5 ha hs; have hin := HIN.out j hlt; have hlt2 := HBD.out.2.2.2.2 j hlt; have hbun : bunUp l (cycF l).at_ (cycF l).sl (List.replicate L z62) (j + 1) = (bunUp l (cycF l).at_ (cycF l).sl (List.replicate L z62) j).set (rd (cycF l).at_ j).toNat (put81 (J62 (bunUp l (cycF l).at_ (cycF l).sl (List.replicate L z62) j) (rd (cycF l).at_ j)) (rd (cycF l).sl j) (J24 l j)) := rfl; have HBU := aM_ hbun; clear hbun; generalize hai : rd (cycF l).at_ (j : Int) = va at ha hin hlt2 HBU; generalize hsi : rd (cycF l).sl (j : Int) = vs at hs hin HBU; obtain ⟨av, rfl⟩ := Int.eq_ofNat_of_zero_le hin.1.1; obtain ⟨sv, rfl⟩ := Int.eq_ofNat_of_zero_le hin.2.1; have hav : av < L := by omega
      have hsv : sv < 4 := by omega
      clear hin hlt2 hai hsi; have HAV := aM_ hav; have HSV := aM_ hsv; have p1 : ((0 : Int) ≤ (j : Int)) = True := eq_true (Int.natCast_nonneg _); have q1 : ((j : Int) < (l.length : Int)) = True := eq_true (by omega); have q1n : (j < l.length) = True := eq_true hlt; have p2 : ((0 : Int) ≤ (av : Int)) = True := eq_true (Int.natCast_nonneg _); have q2 : ((av : Int) < (L : Int)) = True := eq_true (by omega); have q2n : (av < L) = True := eq_true hav; have p3 : ((0 : Int) ≤ (sv : Int)) = True := eq_true (Int.natCast_nonneg _); have q3 : ((sv : Int) < 4) = True := eq_true (by omega); have q3n : (sv < 4) = True := eq_true hsv; clear hav hsv; have hw2 : wrap64 ((j : Int) + 1) = ((j + 1 : Nat) : Int) := by unfold wrap64; omega
      go_wp2; have hb1 := b1_ (bA_ (Below.refl wr.heap.size wr) (.cells #[.int .i64 (J24 l (j : Int)).f0, .int .i64 (J24 l (j : Int)).f1, .int .i64 (J24 l (j : Int)).f2, .int .i64 (J24 l (j : Int)).f3, .int .i64 (J24 l (j : Int)).f4, .string (J24 l (j : Int)).f5] 24)); have hbx : (wr.alloc (.cells #[.int .i64 (J24 l (j : Int)).f0, .int .i64 (J24 l (j : Int)).f1, .int .i64 (J24 l (j : Int)).f2, .int .i64 (J24 l (j : Int)).f3, .int .i64 (J24 l (j : Int)).f4, .string (J24 l (j : Int)).f5] 24)).drew.heap[wr.heap.size]? = some (.cells #[.int .i64 (J24 l (j : Int)).f0, .int .i64 (J24 l (j : Int)).f1, .int .i64 (J24 l (j : Int)).f2, .int .i64 (J24 l (j : Int)).f3, .int .i64 (J24 l (j : Int)).f4, .string (J24 l (j : Int)).f5] 24 (0, 0)) := blk_new wr _; have HBX := aM_ hbx; have HR1 := aM_ (Kd.R_below HR.out hb1); have HB1 := aM_ (HB.out.trans (hb1.mono HB.out.size)); have m4 := aM_ (bC_ ((HB1.out.block g (blk_lt BE.out)).trans BE.out) 4); have m5 := aM_ (bC_ ((HB1.out.block g (blk_lt BE.out)).trans BE.out) 5); have ma := aM_ (pw_cell_below hb1 ha); have ms := aM_ (pw_cell_below hb1 hs); clear hb1 hbx HR HB ha hs hx0 hx1 hx2 hx3 hx4 hx5; generalize hy : J24 l (j : Int) = y at HBX HR1 HB1 m4 m5 ma ms HBU ⊢; refine start_ (n := 19) (S := fun w' => w'.cell? ⟨g, 4, none⟩ = some (.slice (some ada) l.length ca) ∧ w'.cell? ⟨g, 5, none⟩ = some (.slice (some ads) l.length cs) ∧ w'.cell? (ada.add j) = some (.int .i64 av) ∧ w'.cell? (ads.add j) = some (.int .i64 sv) ∧ w'.cell? ⟨wr.heap.size, 0, none⟩ = some (.int .i64 y.f0) ∧ w'.cell? ⟨wr.heap.size, 1, none⟩ = some (.int .i64 y.f1) ∧ w'.cell? ⟨wr.heap.size, 2, none⟩ = some (.int .i64 y.f2) ∧ w'.cell? ⟨wr.heap.size, 3, none⟩ = some (.int .i64 y.f3) ∧ w'.cell? ⟨wr.heap.size, 4, none⟩ = some (.int .i64 y.f4) ∧ w'.cell? ⟨wr.heap.size, 5, none⟩ = some (.string y.f5)) (ds := [18]) (bm 19 0) (by kernel_rfl) rfl (by kernel_rfl) ⟨m4.out.trans rfl, m5.out.trans rfl, ma.out, ms.out, (bC_ HBX.out 0).trans rfl, (bC_ HBX.out 1).trans rfl, (bC_ HBX.out 2).trans rfl, (bC_ HBX.out 3).trans rfl, (bC_ HBX.out 4).trans rfl, (bC_ HBX.out 5).trans rfl⟩ (fun hHeld => ?_); refine with_tabW bundles84.tab8 bundles84.bits8 (fun HT_ HW_ => ?_); clear HBX m4 m5 ma ms; generalize wr.heap.size = gx at hHeld ⊢; generalize (wr.alloc (.cells #[.int .i64 y.f0, .int .i64 y.f1, .int .i64 y.f2, .int .i64 y.f3, .int .i64 y.f4, .string y.f5] 24)).drew = W5 at HR1 HB1 hHeld ⊢; refine sq_ (k := 1) [(0, some 31, false), (1, some 32, false), (2, some 33, false), (3, some 34, false), (4, some 35, true), (5, some 36, false), (6, some 37, false), (7, some 38, true), (8, some 39, false), (9, some 40, false), (10, some 41, false), (11, some 42, true), (12, some 43, false), (13, some 44, false), (14, some 45, true), (15, some 46, true), (16, some 47, false), (17, some 48, false)] #[true, true, true, true, true, true, true, true, true, true, true, true, true, true, true, true, true, true, false] rfl (sq_of HT_.out HW_.out (by kernel_rfl)) (fun _ _ _ _ _ h => h) hHeld ?_
      repeat (first | (refine SqOn.pure (v := ?_) (a' := ?_) rfl rfl (Or.inl ⟨by kernel_rfl, ?_⟩) ?_ ?_; rotate_left 2; (focus (intro w'; go_simp; with_reducible rfl)); (focus exact pU_)) | (refine SqOn.take (v := ?_) (a' := ?_) rfl rfl (Or.inl ⟨by kernel_rfl, ?_⟩) ?_ ?_; rotate_left 2; (focus (rintro w' ⟨s0, s1, s2, s3, s4, s5, s6, s7, s8, s9⟩; go_simp; with_reducible rfl)); (focus exact pU_)))
      refine SqOn.nil ?_; obtain ⟨hR2, hg2, hrun⟩ := slot_store HR1.out av HAV.out sv HSV.out y; have hR3 := aM_ hR2; have hB3 := aM_ (pw_below_grown HB1.out (some gc) HB1.out.size hg2 (fun k_ e_ => by injection e_ with e_; subst e_; exact HGC.out)); have hrun3 := aM_ hrun; clear hR2 hg2 hrun; refine last_ (i := 18) (N := none) #[true, true, true, true, true, true, true, true, true, true, true, true, true, true, true, true, true, true, true] rfl rfl (one_of HT_.out (by kernel_rfl)) (by decide) (fun K hK => ?_); refine skip_ (w1 := W5.setCells gc (av * 24 + sv * 6) (insC y)) (by rfl) rfl ?_ ?_
      · have h_ := hrun3.out; simp only [insC] at h_ ⊢; simp [execOp, Act.eval, h_, Result.andThen]
      refine hK.out _ _ ?_; clear hK K hrun3 HR1 HB1 hHeld; refine done_ (done_of HT_.out (by kernel_rfl)) ?_; clear HT_ HW_; generalize W5.setCells gc (av * 24 + sv * 6) (insC y) = W6 at hR3 hB3 ⊢; go_wp2; refine ⟨⟨j + 1, by omega, by congr 1, ⟨by rw [HBU.out]; exact hR3.out⟩, ⟨hB3.out⟩⟩, ?_⟩; simp [intOf]; omega
    · obtain rfl : j = l.length := by omega
      have q1 : ((l.length : Int) < (l.length : Int)) = False := eq_false (by omega); have hcl2 := HBD.out
      by_cases h0 : 0 ≤ c
      · have c1 : ((0 : Int) ≤ c) = True := eq_true h0; have c1b : decide ((0 : Int) ≤ c) = true := decide_eq_true h0; have hcL : c < (L : Int) := hcl2.2.2.1; clear hcl2; obtain ⟨cv, rfl⟩ := Int.eq_ofNat_of_zero_le h0; clear h0; have p2 : ((0 : Int) ≤ (cv : Int)) = True := eq_true (Int.natCast_nonneg _); have q2 : ((cv : Int) < (L : Int)) = True := eq_true hcL; have hcv : cv < L := by omega
        have q2n : (cv < L) = True := eq_true hcv; have HCV := aM_ hcv; clear hcv hcL; have BX6 := aM_ ((HB.out.block gb (blk_lt BX4.out)).trans BX4.out); go_wp2; refine start_ (n := 7) (S := fun w' => w'.cell? ⟨gb, 2, none⟩ = some (.int .i64 x.f0) ∧ w'.cell? ⟨gb, 3, none⟩ = some (.int .i64 x.f1) ∧ w'.cell? ⟨gb, 4, none⟩ = some (.int .i64 x.f2) ∧ w'.cell? ⟨gb, 5, none⟩ = some (.int .i64 x.f3) ∧ w'.cell? ⟨gb, 6, none⟩ = some (.int .i64 x.f4) ∧ w'.cell? ⟨gb, 7, none⟩ = some (.string x.f5)) (ds := [6]) (bm 7 0) (by kernel_rfl) rfl (by kernel_rfl) ⟨(bC_ (kD_ BX6.out) 2).trans rfl, (bC_ (kD_ BX6.out) 3).trans rfl, (bC_ (kD_ BX6.out) 4).trans rfl, (bC_ (kD_ BX6.out) 5).trans rfl, (bC_ (kD_ BX6.out) 6).trans rfl, (bC_ (kD_ BX6.out) 7).trans rfl⟩ (fun hHeld => ?_); refine with_tabW bundles84.tab11 bundles84.bits11 (fun HT_ HW_ => ?_); have HR1 := aM_ (Kd.R_drew HR.out); have HB1 := aM_ (b1_ HB.out |> fun h_ => (h_ : Below w4.heap.size w4 wr.drew)); clear HR HB BX6; generalize wr.drew = W5 at HR1 HB1 hHeld ⊢; refine sq_ (k := 1) [(0, some 52, false), (1, some 53, false), (2, some 54, false), (3, some 55, true), (4, some 56, false), (5, some 57, false)] #[true, true, true, true, true, true, false] rfl (sq_of HT_.out HW_.out (by kernel_rfl)) (fun _ _ _ _ _ h => h) hHeld ?_
        repeat (first | (refine SqOn.pure (v := ?_) (a' := ?_) rfl rfl (Or.inl ⟨by kernel_rfl, ?_⟩) ?_ ?_; rotate_left 2; (focus (intro w'; go_simp; with_reducible rfl)); (focus exact pU_)) | (refine SqOn.take (v := ?_) (a' := ?_) rfl rfl (Or.inl ⟨by kernel_rfl, ?_⟩) ?_ ?_; rotate_left 2; (focus (rintro w' ⟨s0, s1, s2, s3, s4, s5⟩; go_simp; with_reducible rfl)); (focus exact pU_)))
        refine SqOn.nil ?_; obtain ⟨hR2, hg2, hrun⟩ := slot_store HR1.out cv HCV.out 0 (by omega) x; have hR3 := aM_ hR2; have hB3 := aM_ (pw_below_grown HB1.out (some gc) HB1.out.size hg2 (fun k_ e_ => by injection e_ with e_; subst e_; exact HGC.out)); have hrun3 := aM_ hrun; clear hR2 hg2 hrun; refine last_ (i := 6) (N := none) #[true, true, true, true, true, true, true] rfl rfl (one_of HT_.out (by kernel_rfl)) (by decide) (fun K hK => ?_); refine skip_ (w1 := W5.setCells gc (cv * 24 + 0 * 6) (insC x)) (by rfl) rfl ?_ ?_
        · have h_ := hrun3.out; simp only [insC, Nat.zero_mul, Nat.add_zero] at h_ ⊢; simp [execOp, Act.eval, h_, Result.andThen]
        refine hK.out _ _ ?_; clear hK K hrun3 HR1 HB1 hHeld; refine done_ (done_of HT_.out (by kernel_rfl)) ?_; clear HT_ HW_; generalize W5.setCells gc (cv * 24 + 0 * 6) (insC x) = W6 at hR3 hB3 ⊢; go_wp2; go_ret; refine ⟨_, rfl, Kd.R_lower ?_ HB4.out.size, HB4.out.trans (hB3.out.mono HB4.out.size)⟩; have hc : (endC l x).1 = cv := by rw [HCL.out]
        have hL2 : (endC l x).2.toNat = L := by rw [HCL.out]; simp
        unfold bunF bunAll; rw [hc, if_pos (Int.natCast_nonneg _), hL2, Int.toNat_natCast]; exact hR3.out
      · have c1 : ((0 : Int) ≤ c) = False := eq_false h0; have c1b : decide ((0 : Int) ≤ c) = false := decide_eq_false h0; clear hcl2; have H0 := aM_ h0; clear h0; go_wp2; go_ret; refine ⟨_, rfl, Kd.R_lower ?_ HB4.out.size, HB4.out.trans (HB.out.mono HB4.out.size)⟩; have hc : (endC l x).1 = c := by rw [HCL.out]
        have hL2 : (endC l x).2.toNat = L := by rw [HCL.out]; simp
        unfold bunF bunAll; rw [hc, if_neg (by have := H0.out; omega), hL2]; exact HR.out
end Go.Proofs.YtibfkkjkahpobaaGreat.PDag
end
section
-- the texts that this claim needs, out of this session's and its print's (wip/shrink.py)
namespace Go.Den
open Go Go.RowKit
inductive OT where
  | done
  | none
  | alt (i : Nat) (t r : OT)
def OT.heads : OT → List Nat
  | .alt i _ r => i :: r.heads
  | _ => []
def OT.some_ : OT → Bool
  | .none => false
  | _ => true
def ordChk (ops : Array Oper) : OT → Array Bool → Nat → Bool
  | .alt i t r, l, n => match n with
    | 0 => false
    | m + 1 => !(Region.ready .any ops l).isEmpty && t.some_ && ((Region.ready .any ops (l.setIfInBounds i true)).all fun j => t.heads.any fun i => nb i j) && ordChk ops t (l.setIfInBounds i true) m && ordChk ops r l (m + 1)
  | _, _, _ => true
def ordW (P : Program) (tb : Tb) (ops : Array Oper) (K : St → Prop) : OT → St → Prop
  | .done, σ => K σ
  | .none, _ => True
  | .alt i t r, σ => (match ops[i]? with
    | some o => stepA P tb ops false o σ fun s h1 => σ.put o.dst s h1 fun σ' => ordW P tb ops K t σ'
    | none => False) ∧ ordW P tb ops K r σ
section
variable {P : Program} {cx : Cx} {σ : St} {ops : Array Oper} {tb : Tb} {Q : Exit → Act → World → Prop}
theorem ord_ok (tok : TbOk P tb) {K : St → Prop} (hQ : ∀ σ' a' w', K σ' → R cx σ' a' w' → Q .normal a' w') : ∀ (t : OT),
    (∀ n listed σ a w j, ordChk ops t listed (n + 1) = true → ordW P tb ops K t σ → R cx σ a w → j ∈ t.heads → wpOp P ops Q j (fun a' w' => wpAny P .any ops Q n (listed.setIfInBounds j true) a' w') a w) ∧
    (∀ n listed σ a w, ordChk ops t listed n = true → (∀ j ∈ Region.ready .any ops listed, j ∈ t.heads) → t.some_ = true → ordW P tb ops K t σ → R cx σ a w → wpAny P .any ops Q n listed a w)
  | .done => ⟨fun _ _ _ _ _ j _ _ _ hj => by simp [OT.heads] at hj, fun n listed σ a w _ hr _ hw r => by
      refine wpAny_done ?_ (hQ σ a w hw r) _
      cases he : Region.ready .any ops listed with
      | nil => rfl
      | cons i t => exact absurd (hr i (by rw [he]; simp)) (by simp [OT.heads])⟩
  | .none => ⟨fun _ _ _ _ _ j _ _ _ hj => by simp [OT.heads] at hj, fun _ _ _ _ _ _ _ h => by cases h⟩
  | .alt i t r => by
    have hA : ∀ n listed σ a w j, ordChk ops (.alt i t r) listed (n + 1) = true → ordW P tb ops K (.alt i t r) σ → R cx σ a w → j ∈ (OT.alt i t r).heads → wpOp P ops Q j (fun a' w' => wpAny P .any ops Q n (listed.setIfInBounds j true) a' w') a w := by
      intro n listed σ a w j hc hw hr hj; unfold ordChk at hc; simp only [Bool.and_eq_true, List.all_eq_true, List.any_eq_true] at hc; obtain ⟨⟨⟨⟨_, h1⟩, h2⟩, h3⟩, h4⟩ := hc; rcases List.mem_cons.1 hj with rfl | hj
      · obtain ⟨hw, _⟩ := hw; split at hw <;> try (exact hw.elim)
        rename_i o ho
        obtain ⟨U, ρ, r0⟩ := hr; refine stepA_ok tok ho hw r0 fun s h1' v w1 U1 ρ1 hK g hs => ?_; obtain ⟨σ', hK', r'⟩ := put_ok hK r0 g hs; refine (ord_ok tok hQ t).2 n _ σ' _ w1 h3 (fun k hk => ?_) h1 hK' r'; obtain ⟨x, hx, he⟩ := h2 k hk; rw [← nb_eq he]; exact hx
      · exact (ord_ok tok hQ r).1 n listed σ a w j h4 hw.2 hr hj
    refine ⟨hA, fun n listed σ a w hc hr hs hw r0 => ?_⟩
    cases n with
    | zero => unfold ordChk at hc; cases hc
    | succ n =>
      refine ⟨fun he => ?_, fun j hj => hA n listed σ a w j hc hw r0 (hr j hj)⟩; unfold ordChk at hc; rw [he] at hc; simp at hc
theorem W.ord {id : Nat} {Q : Exit → St → Prop} (t : OT) (σ1 : St) (tok : TbOk P tb) (hm : P.follows .mixedOrders = true) (hc : (t.some_ && ((Region.ready .any ops (Array.replicate ops.size false)).all fun j => t.heads.any fun i => nb i j) && ordChk ops t (Array.replicate ops.size false) ops.size) = true)
    (hw : ordW P tb ops (fun σ' => Le cx σ' σ1) t σ) (hk : Q .normal σ1) : W P cx (.region id ops true) σ Q := fun a w r => by
  simp only [Bool.and_eq_true, List.all_eq_true, List.any_eq_true] at hc; obtain ⟨⟨h1, h2⟩, h3⟩ := hc; refine wp_region_any hm ?_
  exact (ord_ok (cx := cx) (Q := fun e a' w' => ∃ σ', Q e σ' ∧ R cx σ' a' w') tok (fun σ' a' w' hl r' => ⟨σ1, hk, hl a' w' r'⟩) t).2 _ _ σ a _ h3 (fun k hk => by
    obtain ⟨x, hx, he⟩ := h2 k hk
    rw [← nb_eq he]; exact hx) h1 hw r.drew
theorem W.seqO {id : Nat} {Q : Exit → St → Prop} {c : Code} (t : OT) (σ1 : St) (tok : TbOk P tb) (hm : P.follows .mixedOrders = true) (hc : (t.some_ && ((Region.ready .any ops (Array.replicate ops.size false)).all fun j => t.heads.any fun i => nb i j) && ordChk ops t (Array.replicate ops.size false) ops.size) = true)
    (hw : ordW P tb ops (fun σ' => Le cx σ' σ1) t σ) (hk : W P cx c σ1 Q) : W P cx (.seq (.region id ops true) c) σ Q := W.seq (W.ord t σ1 tok hm hc hw hk)
end
attribute [simp] ordW
def closeC (h : List Blk) (c : C) : Option C := match closeArg h (.one c) with
  | some (.one c') => some c'
  | _ => none
def closeParts (h : List Blk) : List (Bool × List C) → Option (List (Bool × List C))
  | [] => some []
  | (false, [c]) :: r => match closeC h c, closeParts h r with
    | some c', some r' => some ((false, [c']) :: r')
    | _, _ => none
  | _ => none
def closeRes (h : List Blk) : S → Option S
  | .tup l => (closeParts h l).map .tup
  | s => closeArg h s
section
variable {P : Program} {U U1 : Nat → Prop} {ρ ρ1 : Nat → Value} {h h1 : List Blk} {w : World}
theorem closeArg_wr (ρ1 : Nat → Value) (h1 : List Blk) {s s' : S} {v : Value} (hc : closeArg h s = some s') (hr : HR U ρ h w) (hs : SR U ρ h w s v) : SR (fun b => U b ∧ ¬ Wr ρ h b) ρ1 h1 w s' v :=
  closeArg_ok ρ1 h1 hc hr (fun b _ hb => hb.1) (fun id g _ hp hu => hu.2 ⟨id, hp⟩) hs
theorem closeParts_wr (ρ1 : Nat → Value) (h1 : List Blk) (hr : HR U ρ h w) : ∀ (l : List (Bool × List C)) {l' : List (Bool × List C)} {vs : List Value}, closeParts h l = some l' → All2 (PartR U ρ h w) l vs → All2 (PartR (fun b => U b ∧ ¬ Wr ρ h b) ρ1 h1 w) l' vs
  | [], l', vs, hc, ha => by
    obtain rfl := Option.some.inj hc
    rw [ha.left_nil]; exact All2.nil
  | (b, cs) :: r, l', vs, hc, ha => by
    obtain ⟨v, vs', rfl, h2, h3⟩ := ha.left_cons; unfold closeParts at hc; split at hc <;> try (cases hc; done)
    · rename_i he; cases he
    · rename_i c r0 he
      cases he
      split at hc <;> try (cases hc; done)
      rename_i c' r' e1 e2
      obtain rfl := Option.some.inj hc; refine All2.cons ?_ (closeParts_wr ρ1 h1 hr r e2 h3); unfold closeC at e1; split at e1 <;> try (cases e1; done)
      rename_i c'' e3
      obtain rfl := Option.some.inj e1; obtain ⟨c0, e4, hcr⟩ := h2; obtain rfl := List.singleton_inj.1 e4; exact ⟨_, rfl, closeArg_wr ρ1 h1 e3 hr hcr⟩
theorem CallStep.froz {f : Nat} {xs : List S} {s s' : S} {H1 : List Blk} (hs : CallStep P f xs [] s H1) (hc : closeRes H1 s = some s') : CallStep P f xs [] s' [] := by
  refine ⟨hs.enters, fun U ρ w vs hr ha => ?_⟩; refine Calls.mono (hs.calls U ρ w vs hr ha) ?_; rintro e w' ⟨v, U1, ρ1, rfl, g, hsr⟩; have hno : ∀ b, ¬ Wr ρ [] b := fun b ⟨i, hi⟩ => by simp [place] at hi
  refine ⟨v, fun b => U1 b ∧ ¬ Wr ρ1 H1 b, ρ, rfl, ⟨g.agree, fun b hb hu => g.less b hb hu.1, fun b hb hu => ?_, HR.empty _ _ _, Ext.refl _ _, fun i g hi => by simp [place] at hi⟩, ?_⟩
  · rcases g.keep b hb hu with h | h
    · refine .inl ⟨h, fun ⟨i, hi⟩ => ?_⟩; rcases g.places i b hi with h' | h'
      · exact hno b h'
      · omega
    · exact absurd h (hno b)
  · unfold closeRes at hc; split at hc
    · obtain ⟨l', e1, rfl⟩ := Option.map_eq_some_iff.1 hc; obtain ⟨vs, e2, ha2⟩ := hsr; exact ⟨vs, e2, closeParts_wr ρ [] g.hr _ e1 ha2⟩
    · exact closeArg_wr ρ [] hc g.hr hsr
end
end Go.Den
end
section
-- the texts that this claim needs, out of this session's and its print's (wip/shrink.py)
namespace Go.Den
open Go Go.RowKit
theorem W.seqTo {P : Program} {cx : Cx} {σ : St} {c y : Code} {Q : Exit → St → Prop} (σ1 : St) (h : W P cx c σ (then_ Q fun σ' => Le cx σ' σ1)) (hk : W P cx y σ1 Q) : W P cx (.seq c y) σ Q :=
  W.seq (h.mono fun e σ' he => by
    cases e with
    | normal => exact W.le he hk
    | _ => exact he)
end Go.Den
end
section
-- the texts that this claim needs, out of this session's and its print's (wip/shrink.py)
namespace Go.Den
open Go Go.RowKit
abbrev Gh := (Nat → Prop) → (Nat → Value) → List Blk → World → Prop
structure GhOk (M : Gh) : Prop where
  stay : ∀ {U : Nat → Prop} {ρ : Nat → Value} {h : List Blk} {w : World} {U1 : Nat → Prop} {ρ1 : Nat → Value} {h1 : List Blk} {w1 : World}, HR U ρ h w → M U ρ h w → Go1 U ρ h w U1 ρ1 h1 w1 → M U1 ρ1 h1 w1
  cut : ∀ {U : Nat → Prop} {ρ : Nat → Value} {h : List Blk} {w : World} (src : List Nat), (∀ i ∈ src, i < h.length) → (∀ i g, place (ρcut ρ src) (heapCut src h) i = some g → Wr ρ h g) → M U ρ h w → M U (ρcut ρ src) (heapCut src h) w
def gh0 : Gh := fun _ _ _ _ => True
theorem gh0_ok : GhOk gh0 := ⟨fun _ _ _ => trivial, fun _ _ _ _ => trivial⟩
def RG (cx : Cx) (M : Gh) (σ : St) (a : Act) (w : World) : Prop := ∃ U ρ, R0 cx U ρ σ a w ∧ M U ρ σ.heap w
def WG (P : Program) (cx : Cx) (c : Code) (σ : St) (M : Gh) (Q : Exit → St → Gh → Prop) : Prop := ∀ a w, RG cx M σ a w → c.wp P (fun e a' w' => ∃ σ' M', Q e σ' M' ∧ RG cx M' σ' a' w') a w
def thenG (Q : Exit → St → Gh → Prop) (K : St → Gh → Prop) : Exit → St → Gh → Prop
  | .normal, σ, M => K σ M
  | e, σ, M => Q e σ M
def LeG (cx : Cx) (σ : St) (M : Gh) (σ1 : St) (M1 : Gh) : Prop := ∀ a w, RG cx M σ a w → RG cx M1 σ1 a w
section
variable {P : Program} {cx : Cx} {σ : St} {M : Gh} {ops : Array Oper} {tb : Tb}
theorem RG.r {a : Act} {w : World} (h : RG cx M σ a w) : R cx σ a w := by
  obtain ⟨U, ρ, r, _⟩ := h; exact ⟨U, ρ, r⟩
theorem WG.seq {x y : Code} {Q : Exit → St → Gh → Prop} (hw : WG P cx x σ M (thenG Q fun σ' M' => WG P cx y σ' M' Q)) : WG P cx (.seq x y) σ M Q := fun a w r => by
  refine wp_seq (wp_mono (hw a w r) fun e a' w' h => ?_); obtain ⟨σ', M', h, r'⟩ := h
  cases e with
  | normal => exact h a' w' r'
  | _ => exact ⟨σ', M', h, r'⟩
theorem WG.skip {Q : Exit → St → Gh → Prop} (h : Q .normal σ M) : WG P cx .skip σ M Q := fun a w r => wp_skip ⟨σ, M, h, r⟩
theorem WG.ret {Q : Exit → St → Gh → Prop} (h : Q .ret σ M) : WG P cx .ret σ M Q := fun a w r => wp_ret ⟨σ, M, h, r⟩
theorem WG.exit {id : Nat} {Q : Exit → St → Gh → Prop} (h : Q (.exit id) σ M) : WG P cx (.exit id) σ M Q := fun a w r => wp_exit ⟨σ, M, h, r⟩
def inBlkG (id : Nat) (Q : Exit → St → Gh → Prop) : Exit → St → Gh → Prop
  | .exit id', σ, M => bif nb id' id then Q .normal σ M else Q (.exit id') σ M
  | e, σ, M => Q e σ M
theorem WG.block {id : Nat} {c : Code} {Q : Exit → St → Gh → Prop} (h : WG P cx c σ M (inBlkG id Q)) : WG P cx (.block id c) σ M Q := fun a w r => by
  refine wp_block (wp_mono (h a w r) fun e a' w' h => ?_); obtain ⟨σ', M', h, r'⟩ := h
  cases e with
  | exit id' =>
    show if id' = id then _ else _
    by_cases e : id' = id
    · subst e; rw [if_pos rfl]; refine ⟨σ', M', ?_, r'⟩; simpa [inBlkG] using h
    · rw [if_neg e]; refine ⟨σ', M', ?_, r'⟩; have : nb id' id = false := by cases hb : nb id' id; rfl; exact absurd (nb_eq hb) e
      simpa [inBlkG, this] using h
  | _ => exact ⟨σ', M', h, r'⟩
theorem WG.if_ {c : Operand} {x y : Code} {Q : Exit → St → Gh → Prop} (b : Bool) (hb : σ.ev c = .one (.bool b)) (h1 : b = true → WG P cx x σ M Q) (h2 : b = false → WG P cx y σ M Q) : WG P cx (.cond c x y) σ M Q := fun a w r => by
  have hv : a.eval c = .bool b := by
    obtain ⟨U, ρ, r0, _⟩ := r; have := r0.ev c; rw [hb] at this; exact this
  exact wp_cond_split hv (fun e => h1 e a w r) (fun e => h2 e a w r)
theorem WG.le {c : Code} {σ1 : St} {M1 : Gh} {Q : Exit → St → Gh → Prop} (hl : LeG cx σ M σ1 M1) (h : WG P cx c σ1 M1 Q) : WG P cx c σ M Q := fun a w r => h a w (hl a w r)
theorem WG.loop {α : Type} {c : Code} {Q : Exit → St → Gh → Prop} (I : α → St) (J : α → Gh) (μ : α → Nat) (Φ : α → Prop) (x : α) (hx : Φ x) (h0 : LeG cx σ M (I x) (J x)) (round : ∀ x, Φ x → WG P cx c (I x) (J x) (thenG Q fun σ' M' => ∃ y, Φ y ∧ LeG cx σ' M' (I y) (J y) ∧ μ y < μ x)) : WG P cx (.loop c) σ M Q := fun a w r => by
  have key : ∀ n x, μ x < n → Φ x → ∀ a w, RG cx (J x) (I x) a w → Code.rounds P c (fun e a' w' => ∃ σ' M', Q e σ' M' ∧ RG cx M' σ' a' w') n a w := by
    intro n
    induction n with
    | zero => intro x h; omega
    | succ n ih =>
      intro x hn hx a w r; refine wp_mono (round x hx a w r) fun e a' w' h => ?_; obtain ⟨σ', M', h, r'⟩ := h
      cases e with
      | normal =>
        obtain ⟨y, hy, hl, hlt⟩ := h
        exact ih y (by omega) hy a' w' (hl a' w' r')
      | _ => exact ⟨σ', M', h, r'⟩
  exact wp_loop_rounds _ (key _ x (Nat.lt_succ_self _) hx a w (h0 a w r))
theorem WG.toW {c : Code} {Q : Exit → St → Prop} (h : WG P cx c σ gh0 fun e σ' _ => Q e σ') : W P cx c σ Q := fun a w ⟨U, ρ, r⟩ =>
  wp_mono (h a w ⟨U, ρ, r, trivial⟩) fun e a' w' ⟨σ', M', h, r'⟩ => ⟨σ', h, r'.r⟩
theorem LeG.to {σ' σ1 : St} {n0 : Nat} (hM : GhOk M) (src : List Nat) (hcx : cx.h0.length = n0) (hs : srcOk src n0 σ'.heap.length = true) (h : keepsC src σ' σ1 σ1.env) : LeG cx σ' M σ1 M := fun a w ⟨U, ρ, r, m⟩ => by
  subst hcx; obtain ⟨⟨h1, h2⟩, h3⟩ := keepsC_get _ h; obtain ⟨hl, hhr, hex, hpl⟩ := cut_all (Z := fun g => (cx.W0 g ∨ cx.w0.heap.size ≤ g) ∧ Wr ρ σ'.heap g) hs r.hr r.ext fun i g hi => ⟨r.places i g hi, i, hi⟩
  have r1 : R0 cx U (ρcut ρ src) (σ'.cut (σ1.env.map Prod.fst) src) a w := ⟨r.size, r.defers, fun t => by
    rcases look_cut (src := src) (σ := σ') (σ1.env.map Prod.fst) t with e | e
    · show SR U (ρcut ρ src) (heapCut src σ'.heap) w (look ((σ1.env.map Prod.fst).map fun t => (t, (σ'.get t).ren src)) t) (a.tmps.getD t undef); rw [e]; exact (r.env t).ren hl
    · show SR U (ρcut ρ src) (heapCut src σ'.heap) w (look ((σ1.env.map Prod.fst).map fun t => (t, (σ'.get t).ren src)) t) (a.tmps.getD t undef)
      rw [e]; trivial, hhr, r.agree, r.newU, r.oldU, fun i g hi => (hpl i g hi).1, hex⟩
  refine ⟨U, ρcut ρ src, r1.of_get h1 h2 h3, ?_⟩; rw [← h1]; exact hM.cut src hl (fun i g hi => (hpl i g hi).2) m
def RunG (P : Program) (ops : Array Oper) (cx : Cx) (is : List Nat) (σ : St) (M : Gh) (Q : Exit → St → Gh → Prop) : Prop := ∀ a w, RG cx M σ a w → wpOps P ops (fun e a' w' => ∃ σ' M', Q e σ' M' ∧ RG cx M' σ' a' w') is a w
def opsA (P : Program) (tb : Tb) (ops : Array Oper) : List Oper → St → (St → Prop) → Prop
  | [], σ, K => K σ
  | o :: r, σ, K => stepA P tb ops (asg o.dst r) o σ fun s h1 => σ.put o.dst s h1 fun σ' => opsA P tb ops r σ' K
theorem stepG_ok {Q : Exit → Act → World → Prop} (tok : TbOk P tb) (hM : GhOk M) {ow : Bool} {i : Nat} {o : Oper} {K : St → Prop} {K' : Act → World → Prop} (hi : ops[i]? = some o) (hw : stepA P tb ops ow o σ fun s h1 => σ.put o.dst s h1 K) {a : Act} {w : World} (r : RG cx M σ a w)
    (hk : ∀ σ' a' w', K σ' → RG cx M σ' a' w' → K' a' w') : wpOp P ops Q i K' a w := by
  obtain ⟨U, ρ, r0, m⟩ := r; refine stepA_ok tok hi hw r0 fun s h1 v w1 U1 ρ1 hK g hs => ?_; have m1 := hM.stay r0.hr m g; have r1 := r0.step g; unfold St.put at hK
  cases hd : o.dst with
  | none =>
    rw [hd] at hK
    exact hk _ _ _ hK ⟨U1, ρ1, r1, m1⟩
  | some d =>
    rw [hd] at hK; simp only [] at hK
    cases hn : nlt d σ.n with
    | false => rw [hn] at hK; exact hK.elim
    | true =>
      rw [hn] at hK; exact hk _ _ _ hK ⟨U1, ρ1, r1.put (s := s) (nle_le hn) hs, m1⟩
theorem RunG.nil {Q : Exit → St → Gh → Prop} (h : Q .normal σ M) : RunG P ops cx [] σ M Q := fun a w r => ⟨σ, M, h, r⟩
theorem RunG.den {Q : Exit → St → Gh → Prop} (tok : TbOk P tb) (hM : GhOk M) {is : List Nat} (σ1 : St) (hk : RunG P ops cx is σ1 M Q) : ∀ (n i : Nat) (σ : St), i + n ≤ ops.size → opsA P tb ops ((ops.toList.drop i).take n) σ (fun σ' => σ' = σ1) → RunG P ops cx (List.range' i n ++ is) σ M Q
  | 0, i, σ, _, h => by
    rw [List.take_zero] at h; have h : σ = σ1 := h; subst h
    exact hk
  | n + 1, i, σ, hs, h => fun a w r => by
    have hlt : i < ops.toList.length := by rw [Array.length_toList]; omega
    have hi : ops[i]? = some ops.toList[i] := by rw [← Array.getElem?_toList]; exact List.getElem?_eq_getElem hlt
    rw [List.drop_eq_getElem_cons hlt, List.take_succ_cons] at h; rw [List.range'_succ, List.cons_append, wpOps_cons]; refine stepG_ok tok hM hi h r fun σ' a' w' hK r' => ?_; exact RunG.den tok hM σ1 hk n (i + 1) σ' (by omega) hK a' w' r'
theorem WG.reg {id : Nat} {Q : Exit → St → Gh → Prop} (h : RunG P ops cx (List.range' 0 ops.size) σ M Q) : WG P cx (.region id ops false) σ M Q := fun a w r => by
  refine wp_region ?_; rw [List.range_eq_range']; exact h a w r
theorem RunG.raw {Q : Exit → St → Gh → Prop} {i : Nat} {is : List Nat} {o : Oper} {s : S} {h1 : List Blk} {M1 : Gh} (hi : ops[i]? = some o) (hg : o.guard = none)
    (hr : ∀ a w U ρ, R0 cx U ρ σ a w → M U ρ σ.heap w → ∃ v w1 U1 ρ1, ((execOp a.eval o).run P w = .ok (.value v) w1) ∧ R0 cx U1 ρ1 { σ with heap := h1 } a w1 ∧ M1 U1 ρ1 h1 w1 ∧ SR U1 ρ1 h1 w1 s v)
    (hd : ∀ d, o.dst = some d → d < σ.n) (hk : RunG P ops cx is { env := putE o.dst s σ.env, heap := h1, n := σ.n } M1 Q) : RunG P ops cx (i :: is) σ M Q := fun a w ⟨U, ρ, r, m⟩ => by
  obtain ⟨v, w1, U1, ρ1, hrun, r1, m1, hs⟩ := hr a w U ρ r m; rw [wpOps_cons]; unfold wpOp; simp only [hi]; have hwant : Region.wanted o (yielded ops a.tmps) = true := by unfold Region.wanted; rw [hg]
  rw [if_pos hwant]; refine .inl ?_; unfold Oper.wp; rw [hrun]; refine hk _ _ ?_
  cases hdd : o.dst with
  | none => exact ⟨U1, ρ1, r1, m1⟩
  | some d => exact ⟨U1, ρ1, r1.put (s := s) (hd d hdd) hs, m1⟩
end
end Go.Den
end
section
-- the texts that this claim needs, out of this session's and its print's (wip/shrink.py)
namespace Go.Den
open Go Go.RowKit Go.Proofs Go.Proofs.YtibfkkjkahpobaaGreatW.PrintWords Go.Proofs.YtibfkkjkahpobaaGreat.PDag
theorem o36 (s : ByteArray) : CallStep Tryz.prog 36 [.one (.str s)] [] (.one (.bool (nameOk s))) [] := mkF 36 #[.string s] (.bool _) rfl rfl ⟨_, _, Tryz.func36, by kernel_rfl, rfl⟩ fun w => (r3_Name.calls 40 s _ w (ref_name (Nat.le_refl _) s)).mono fun _ _ h => ⟨h.1, h.2.below⟩
theorem o39 (n : Int) : CallStep Tryz.prog 39 [.one (.int .i64 n)] [] (.one (.bool (endsOp n))) [] := mkF 39 #[.int .i64 n] (.bool _) rfl rfl ⟨_, _, Tryz.func39, by kernel_rfl, rfl⟩ fun w => (r3_Ends.calls n _ w (rends_eq n)).mono fun _ _ h => ⟨h.1, h.2.below⟩
theorem o66 (op : Int) : CallStep Tryz.prog 66 [.one (.int .i64 op)] [] (.one (.bool (decide (0 ≤ op ∧ op ≤ 33)))) [] := mkF 66 #[.int .i64 op] (.bool _) rfl rfl ⟨_, _, Tryz.func66, by kernel_rfl, rfl⟩ fun w => (r3_Valid.calls op _ w (ref_valid op)).mono fun _ _ h => ⟨h.1, h.2.below⟩
theorem o67 (op : Int) (h0 : 0 ≤ op ∧ op ≤ 33) : CallStep Tryz.prog 67 [.one (.int .i64 op)] [] (.one (.int .i64 (formOf op))) [] := mkF 67 #[.int .i64 op] (.int .i64 _) rfl rfl ⟨_, _, Tryz.func67, by kernel_rfl, rfl⟩ fun w => (r3_Form.calls op _ w (form_eq op h0.1 h0.2)).mono fun _ _ h => ⟨h.1, h.2⟩
theorem o69 (f : Int) (h0 : 0 ≤ f ∧ f ≤ 9) : CallStep Tryz.prog 69 [.one (.int .i64 f)] [] (.one (.bool (hasD f))) [] := mkF 69 #[.int .i64 f] (.bool _) rfl rfl ⟨_, _, Tryz.func69, by kernel_rfl, rfl⟩ fun w => (r3_HasD.calls f _ w (ref_hasD f h0.1 h0.2)).mono fun _ _ h => ⟨h.1, h.2.below⟩
theorem o70 (f : Int) (h0 : 0 ≤ f ∧ f ≤ 9) : CallStep Tryz.prog 70 [.one (.int .i64 f)] [] (.one (.bool (hasA f))) [] := mkF 70 #[.int .i64 f] (.bool _) rfl rfl ⟨_, _, Tryz.func70, by kernel_rfl, rfl⟩ fun w => (r3_HasA.calls f _ w (ref_hasA f h0.1 h0.2)).mono fun _ _ h => ⟨h.1, h.2.below⟩
theorem o71 (f : Int) (h0 : 0 ≤ f ∧ f ≤ 9) : CallStep Tryz.prog 71 [.one (.int .i64 f)] [] (.one (.bool (hasB f))) [] := mkF 71 #[.int .i64 f] (.bool _) rfl rfl ⟨_, _, Tryz.func71, by kernel_rfl, rfl⟩ fun w => (r3_HasB.calls f _ w (ref_hasB f h0.1 h0.2)).mono fun _ _ h => ⟨h.1, h.2.below⟩
theorem o68 (n : Int) (has : Bool) : CallStep Tryz.prog 68 [.one (.int .i64 n), .one (.bool has)] [] (.one (.bool (regOk has n))) [] := mkF 68 #[.int .i64 n, .bool has] (.bool _) rfl rfl ⟨_, _, Tryz.func68, by kernel_rfl, rfl⟩ fun w => (r3_reg.calls n has _ w (ref_reg_eq has n)).mono fun _ _ h => ⟨h.1, h.2.below⟩
theorem o73 (f : Int) (h0 : 0 ≤ f ∧ f ≤ 9) : CallStep Tryz.prog 73 [.one (.int .i64 f)] [] (.one (.bool (target f))) [] := mkF 73 #[.int .i64 f] (.bool _) rfl rfl ⟨_, _, Tryz.func73, by kernel_rfl, rfl⟩ fun w => (r3_Target.calls f _ w (ref_target f h0.1 h0.2)).mono fun _ _ h => ⟨h.1, h.2.below⟩
theorem o75 (f : Int) (h0 : 0 ≤ f ∧ f ≤ 9) : CallStep Tryz.prog 75 [.one (.int .i64 f)] [] (.one (.int .i64 (bitsOf f))) [] := mkF 75 #[.int .i64 f] (.int .i64 _) rfl rfl ⟨_, _, Tryz.func75, by kernel_rfl, rfl⟩ fun w => (r3_Bits.calls 10 f _ w (ref_bits (Nat.le_refl _) f h0.1 h0.2)).mono fun _ _ h => ⟨h.1, h.2.below⟩
theorem fits_eq (n b : Int) (hb : b = 14 ∨ b = 18) : r1_Fits.f n b = some (if b = 14 then fit14 n else fit18 n) := by rcases hb with rfl | rfl; exact fits14 n; exact fits18 n
theorem o72 (n : Int) (b : Int) (hb : b = 14 ∨ b = 18) : CallStep Tryz.prog 72 [.one (.int .i64 n), .one (.int .i64 b)] [] (.one (.bool (if b = 14 then fit14 n else fit18 n))) [] := mkF 72 #[.int .i64 n, .int .i64 b] (.bool _) rfl rfl ⟨_, _, Tryz.func72, by kernel_rfl, rfl⟩ fun w => (r1_Fits.calls n b _ w (fits_eq n b hb)).mono fun _ _ h => ⟨h.1, h.2.below⟩
theorem num_eq (n m : Int) : r0_Num.f n m = some (decide (0 ≤ n ∧ n ≤ m)) := by
  unfold r0_Num.f
  by_cases h : n ≥ 0
  · rw [if_pos h]; congr 1; by_cases h2 : n ≤ m <;> simp [h2] <;> omega
  · rw [if_neg h]; congr 1; symm; rw [decide_eq_false_iff_not]; omega
theorem o74 (n : Int) (m : Int) : CallStep Tryz.prog 74 [.one (.int .i64 n), .one (.int .i64 m)] [] (.one (.bool (decide (0 ≤ n ∧ n ≤ m)))) [] := mkF 74 #[.int .i64 n, .int .i64 m] (.bool _) rfl rfl ⟨_, _, Tryz.func74, by kernel_rfl, rfl⟩ fun w => (r0_Num.calls n m _ w (num_eq n m)).mono fun _ _ h => ⟨h.1, h.2.below⟩
theorem regs_cond (a b c : Bool) : (bif (bif !a then true else !b) then true else !c) = !(a && (b && c)) := by cases a <;> cases b <;> cases c <;> rfl
theorem hnil : (⟨#[]⟩ : ByteArray).toList = [] := by rw [ByteArray.toList_eq]
theorem imm_some {op imm : Int} {s : ByteArray} (h0 : 0 ≤ op) (h1 : op ≤ 33) (hs : ¬ s.toList = []) : immOk (formOf op) imm s = (bif nameOk s then (bif (bif op == 23 then fit18 imm else false) then true else (bif target (formOf op) then imm == 0 else false)) else false) := by
  have hli := formOf_li op h0 h1; unfold immOk; rw [if_neg hs, if_neg hs]
  by_cases h4 : op = 23
  · have hf := hli.2 h4; rw [hf, h4]
    cases nameOk s <;> cases fit18 imm <;> simp [target]
  · have hf : ¬ formOf op = 4 := fun h => h4 (hli.1 h); rw [if_neg hf, show (op == 23) = false by simpa using h4]
    cases nameOk s <;> cases target (formOf op) <;> by_cases hi : imm = 0 <;> simp [hi]
theorem o38 (x : S24) : CallStep Tryz.prog 38 [.agg (kIns.flat (f24 x))] [] (.one (.bool (okI x))) [] := by
  obtain ⟨op, d, a, b, imm, s⟩ := x; show CallStep Tryz.prog 38 [.agg [.int .i64 op, .int .i64 d, .int .i64 a, .int .i64 b, .int .i64 imm, .str s]] [] (.one (.bool (insOk op d a b imm s))) []; refine CallStep.intro' (n := 76) (n0 := 0) (rs := [.tmp 2]) tb_ok Tryz.func38 (by kernel_rfl) rfl rfl rfl rfl rfl fun cx hcx => ?_; refine W.sO tb_ok ?_; refine W.seq ?_; have q0_ := o66 op; refine W.sO tb_ok ?_; refine W.if_ _ rfl (fun e => ?_) (fun e => W.skip ?_)
  · have e : decide (0 ≤ op ∧ op ≤ 33) = false := by rw [← Bool.not_eq_true']; exact e
    rw [show insOk op d a b imm s = false by unfold insOk; rw [e]; rfl]; refine W.sO tb_ok ?_; exact W.ret (endL1 (tb := tb) (n0 := 0) rfl rfl rfl rfl)
  have e : decide (0 ≤ op ∧ op ≤ 33) = true := by rw [← Bool.not_eq_false']; exact e
  have hop := of_decide_eq_true e; have hf := formOf_range op hop.1 hop.2; have hok : insOk op d a b imm s = (regOk (hasD (formOf op)) d && (regOk (hasA (formOf op)) a && regOk (hasB (formOf op)) b) && immOk (formOf op) imm s) := by unfold insOk; rw [e, Bool.true_and, Bool.and_assoc, Bool.and_assoc]
  have h73 := o73 (formOf op) hf; have h75 := o75 (formOf op) hf; have q0_ := o67 op hop; refine W.sO tb_ok ?_; refine W.seq ?_; have q0_ := o69 (formOf op) hf; have q1_ := o70 (formOf op) hf; have q2_ := o71 (formOf op) hf; have q3_ := o68 d (hasD (formOf op)); have q4_ := o68 a (hasA (formOf op)); have q5_ := o68 b (hasB (formOf op)); refine W.aO [22] tb_ok ?_; refine W.if_ _ rfl (fun e2 => ?_) (fun e2 => W.skip ?_)
  · have e3 := (regs_cond _ _ _).symm.trans e2; rw [Bool.not_eq_true'] at e3; rw [hok, e3]; refine W.sO tb_ok ?_; exact W.ret (endL1 (tb := tb) (n0 := 0) rfl rfl rfl rfl)
  have e3 := (regs_cond _ _ _).symm.trans e2; rw [Bool.not_eq_false'] at e3; rw [hok, e3, Bool.true_and]; refine W.seq ?_; refine W.sO tb_ok ?_; refine W.if_ _ rfl (fun e4 => ?_) (fun e4 => W.skip ?_)
  · have e5 : ¬ s.toList = [] := fun h => by have e4 : (!(s.toList == (⟨#[]⟩ : ByteArray).toList)) = true := e4; rw [h, hnil] at e4; cases e4
    rw [imm_some hop.1 hop.2 e5]; have q0_ := o36 s; have q1_ := o72 imm 18 (.inr rfl); refine W.sO tb_ok ?_; exact W.ret (endL1 (tb := tb) (n0 := 0) rfl rfl rfl rfl)
  have e5 : s.toList = [] := by have e4 : (!(s.toList == (⟨#[]⟩ : ByteArray).toList)) = false := e4; rw [Bool.not_eq_false', hnil] at e4; exact eq_of_beq e4
  have him : immOk (formOf op) imm s = if target (formOf op) = true then decide (0 ≤ imm ∧ imm ≤ 1023) else (if bitsOf (formOf op) > 0 then (if bitsOf (formOf op) = 14 then fit14 imm else fit18 imm) else imm == 0) := by
    unfold immOk; rw [if_pos e5, if_pos e5]; generalize formOf op = f at hf; rcases form_cases f hf.1 hf.2 with rfl | rfl | rfl | rfl | rfl | rfl | rfl | rfl | rfl | rfl <;> simp [target, bitsOf]
  refine W.seq (W.block ?_); refine W.sO tb_ok ?_; refine W.if_ _ rfl (fun e6 => ?_) (fun e6 => ?_)
  · rw [him, if_pos e6]; have q0_ := o74 imm 1023; refine W.sO tb_ok ?_; exact W.ret (endL1 (tb := tb) (n0 := 0) rfl rfl rfl rfl)
  rw [if_neg (by rw [e6]; exact Bool.false_ne_true)] at him; refine W.sO tb_ok ?_; refine W.if_ _ rfl (fun e7 => ?_) (fun e7 => W.skip ?_)
  · have e8 := of_decide_eq_true e7
    have hb : bitsOf (formOf op) = 14 ∨ bitsOf (formOf op) = 18 := by
      generalize formOf op = f at hf e8; rcases form_cases f hf.1 hf.2 with rfl | rfl | rfl | rfl | rfl | rfl | rfl | rfl | rfl | rfl <;> simp [bitsOf] at e8 ⊢
    rw [him, if_pos e8]; have q0_ := o72 imm (bitsOf (formOf op)) hb; refine W.aO [6] tb_ok ?_; exact W.ret (endL1 (tb := tb) (n0 := 0) rfl rfl rfl rfl)
  · have e8 := of_decide_eq_false e7; rw [him, if_neg e8]; refine W.sO tb_ok ?_; exact W.ret (endL1 (tb := tb) (n0 := 0) rfl rfl rfl rfl)
end Go.Den
end
section
-- the texts that this claim needs, out of this session's and its print's (wip/shrink.py)
namespace Go.Den
open Go Go.RowKit Go.Proofs Go.Proofs.YtibfkkjkahpobaaGreatW.PrintWords Go.Proofs.YtibfkkjkahpobaaGreat.PDag
theorem insVal {U : Nat → Prop} {ρ : Nat → Value} {h : List Blk} {w : World} {x : S24} {cs : Array Value} (h1 : All2 (CR U ρ h w) (kIns.flat (f24 x)) cs.toList) : cs = #[.int .i64 x.f0, .int .i64 x.f1, .int .i64 x.f2, .int .i64 x.f3, .int .i64 x.f4, .string x.f5] := by
  obtain ⟨v0, l0, e0, a0, h1⟩ := h1.left_cons; obtain ⟨v1, l1, rfl, a1, h1⟩ := h1.left_cons; obtain ⟨v2, l2, rfl, a2, h1⟩ := h1.left_cons; obtain ⟨v3, l3, rfl, a3, h1⟩ := h1.left_cons; obtain ⟨v4, l4, rfl, a4, h1⟩ := h1.left_cons; obtain ⟨v5, l5, rfl, a5, h1⟩ := h1.left_cons; obtain rfl := h1.left_nil; obtain rfl : v0 = .int .i64 x.f0 := a0; obtain rfl : v1 = .int .i64 x.f1 := a1; obtain rfl : v2 = .int .i64 x.f2 := a2; obtain rfl : v3 = .int .i64 x.f3 := a3; obtain rfl : v4 = .int .i64 x.f4 := a4; obtain rfl : v5 = .string x.f5 := a5; exact Array.toList_inj.1 e0
theorem int1 {U : Nat → Prop} {ρ : Nat → Value} {h : List Blk} {w : World} {n : Int} {vs : Array Value} (ha : All2 (SR U ρ h w) [.one (.int .i64 n)] vs.toList) : vs = #[.int .i64 n] := by
  obtain ⟨v, rfl, hv⟩ := vs1 ha; obtain rfl : v = .int .i64 n := hv; rfl
theorem o40 (op : Int) (h0 : 0 ≤ op ∧ op ≤ 33) : CallStep Tryz.prog 40 [.one (.int .i64 op)] [] (.one (.int .i64 (lateOp op))) [] := by
  refine CallStep.mk1 ⟨_, _, Tryz.func40, by kernel_rfl, rfl⟩ fun U ρ w vs ha => ?_; obtain rfl := int1 ha; refine Calls.mono (r3_Latency.calls 5 op _ w (rlate_eq (Nat.le_refl _) op h0.1 h0.2)) ?_; rintro e w' ⟨rfl, hB⟩; exact ⟨_, rfl, hB.below, fun U1 hU => rfl⟩
theorem o80 (op : Int) (h0 : 0 ≤ op ∧ op ≤ 33) : CallStep Tryz.prog 80 [.one (.int .i64 op)] [] (.one (.bool (effOp op))) [] := by
  refine CallStep.mk1 ⟨_, _, Tryz.func80, by kernel_rfl, rfl⟩ fun U ρ w vs ha => ?_; obtain rfl := int1 ha; refine Calls.mono (r3_Effect.calls op _ w (reff_eq op h0.1 h0.2)) ?_; rintro e w' ⟨rfl, hB⟩; exact ⟨_, rfl, hB.below, fun U1 hU => rfl⟩
theorem o77 (x : S24) (h0 : 0 ≤ x.f0 ∧ x.f0 ≤ 33) : CallStep Tryz.prog 77 [.agg (kIns.flat (f24 x))] [] (.one (.int .i64 (wOf x))) [] := by
  refine CallStep.mk1 ⟨_, _, Tryz.func77, by kernel_rfl, rfl⟩ fun U ρ w vs ha => ?_; obtain ⟨v, rfl, hv⟩ := vs1 ha; obtain ⟨cs, rfl, h1⟩ := hv; obtain rfl := insVal h1; refine Calls.mono (r3_Writes.calls _ _ _ _ _ _ _ w (rwrites_eq x h0.1 h0.2)) ?_; rintro e w' ⟨rfl, hB⟩; exact ⟨_, rfl, hB, fun U1 hU => rfl⟩
theorem o79 (x : S24) (h0 : 0 ≤ x.f0 ∧ x.f0 ≤ 33) : CallStep Tryz.prog 79 [.agg (kIns.flat (f24 x))] [] (.one (.row 3 kI (readsL x))) [] := by
  refine CallStep.mk1 ⟨_, _, Tryz.func79, by kernel_rfl, rfl⟩ fun U ρ w vs ha => ?_; obtain ⟨v, rfl, hv⟩ := vs1 ha; obtain ⟨cs, rfl, h1⟩ := hv; obtain rfl := insVal h1; refine Calls.mono (r3_Reads.calls 12 _ _ _ _ _ _ _ w (rreads_eq (Nat.le_refl _) x h0.1 h0.2)) ?_; rintro e w' ⟨v0, rfl, hR, hB⟩; exact ⟨_, rfl, hB, fun U1 hU => (brInts .i64 3).made (base := w.heap.size) (ok := fun _ => True) ⟨v0, rfl, hR⟩ fun a h1 h2 _ h3 => by have := hU a h3; omega⟩
theorem o78 (l : List Int) (v r : Int) (h : r0_In.f 5 l v = some r) : CallStep Tryz.prog 78 [.one (.row 3 kI l), .one (.int .i64 v)] [] (.one (.int .i64 r)) [] := by
  refine CallStep.mk1 ⟨_, _, Tryz.func78, by kernel_rfl, rfl⟩ fun U ρ w vs ha => ?_; obtain ⟨v1, v2, rfl, hv, hv2⟩ := vs2 ha; obtain ⟨A, c, rfl, b1, b2⟩ := argInts (xs := l) hv; obtain rfl : v2 = .int .i64 v := hv2; refine Calls.mono (r0_In.calls 5 A c l v r w b2 b1 h) ?_; rintro e w' ⟨rfl, hB⟩; exact ⟨_, rfl, hB.below, fun U1 hU => rfl⟩
theorem o81 (x y : S24) (hx : okI x = true) (hy : okI y = true) : CallStep Tryz.prog 81 [.agg (kIns.flat (f24 x)), .agg (kIns.flat (f24 y))] [] (.one (.int .i64 (dist x y))) [] := by
  have ox := okI_op hx; have oy := okI_op hy; have dx := okI_d hx; have dy := okI_d hy; obtain ⟨r1, e1, q1⟩ := in_eq (Nat.le_refl 5) x (wOf y); obtain ⟨r2, e2, q2⟩ := in_eq (Nat.le_refl 5) y (wOf x); refine CallStep.intro' (n := 49) (n0 := 0) (rs := [.tmp 4]) tb_ok Tryz.func81 (by kernel_rfl) rfl rfl rfl rfl rfl fun cx hcx => ?_; refine W.sO tb_ok ?_; refine W.sO tb_ok ?_; have q0_ := o77 x ox; have q1_ := o77 y oy; refine W.aO [6] tb_ok ?_; refine W.seq ?_; have q0_ := o79 x ox; have q1_ := o78 (readsL x) (wOf y) r1 e1; refine W.sO tb_ok ?_; generalize hd1 : (if (bif decide (wOf y ≥ 0) then decide (r1 ≥ 0) else false) = true then (0 : Int) else -1) = d1; refine W.ifJ ⟨[(2, .one (.ptr 0 0)), (3, .one (.ptr 1 0)), (6, .one (.int .i64 (wOf x))), (7, .one (.int .i64 (wOf y))), (5, .one (.int .i64 d1))], [.box 24 (kIns.flat (f24 x)), .box 24 (kIns.flat (f24 y))], 49⟩ _ rfl (fun e => ?_) (fun e => W.skip ?_) ?_
  · rw [if_pos e] at hd1; subst hd1; refine W.rO tb_ok ?_; exact Le.to [0, 1] hcx rfl ⟨rfl, rfl, rfl, rfl, rfl, rfl, rfl⟩
  · rw [if_neg (by rw [e]; exact Bool.false_ne_true)] at hd1; subst hd1; exact Le.to [0, 1] hcx rfl ⟨rfl, rfl, rfl, rfl, rfl, rfl, rfl⟩
  refine W.seq ?_; have q0_ := o80 x.f0 ox; have q1_ := o80 y.f0 oy; refine W.sO tb_ok ?_; generalize hd2 : (if (bif effOp x.f0 then effOp y.f0 else false) = true then (1 : Int) else d1) = d2; refine W.ifJ ⟨[(2, .one (.ptr 0 0)), (3, .one (.ptr 1 0)), (6, .one (.int .i64 (wOf x))), (7, .one (.int .i64 (wOf y))), (5, .one (.int .i64 d2))], [.box 24 (kIns.flat (f24 x)), .box 24 (kIns.flat (f24 y))], 49⟩ _ rfl (fun e => ?_) (fun e => W.skip ?_) ?_
  · rw [if_pos e] at hd2; subst hd2; refine W.rO tb_ok ?_; exact Le.to [0, 1] hcx rfl ⟨rfl, rfl, rfl, rfl, rfl, rfl, rfl⟩
  · rw [if_neg (by rw [e]; exact Bool.false_ne_true)] at hd2; subst hd2; exact Le.to [0, 1] hcx rfl ⟨rfl, rfl, rfl, rfl, rfl, rfl, rfl⟩
  refine W.seq ?_; have q0_ := o79 y oy; have q1_ := o78 (readsL y) (wOf x) r2 e2; refine W.sO tb_ok ?_; generalize hd3 : (if (bif decide (wOf x ≥ 0) then (bif wOf x == wOf y then true else decide (r2 ≥ 0)) else false) = true then max d2 (lateOp x.f0) else d2) = d3; refine W.ifJ ⟨[(2, .one (.ptr 0 0)), (3, .one (.ptr 1 0)), (6, .one (.int .i64 (wOf x))), (7, .one (.int .i64 (wOf y))), (5, .one (.int .i64 d3))], [.box 24 (kIns.flat (f24 x)), .box 24 (kIns.flat (f24 y))], 49⟩ _ rfl (fun e => ?_) (fun e => W.skip ?_) ?_
  · rw [if_pos e] at hd3; subst hd3; have q0_ := o40 x.f0 ox; refine W.rO tb_ok ?_; exact Le.to [0, 1] hcx rfl ⟨rfl, rfl, rfl, rfl, rfl, rfl, rfl⟩
  · rw [if_neg (by rw [e]; exact Bool.false_ne_true)] at hd3; subst hd3; exact Le.to [0, 1] hcx rfl ⟨rfl, rfl, rfl, rfl, rfl, rfl, rfl⟩
  refine W.sO tb_ok ?_; refine W.ret (endL1 (tb := tb) (n0 := 0) ?_ rfl rfl rfl); have hmx : ∀ a b : Int, max a b = mx a b := fun a b => by unfold mx; rw [Int.max_def]; split <;> split <;> omega
  refine congrArg (fun n => S.one (C.int .i64 n)) ?_; rw [← hd3, ← hd2, ← hd1, q1, q2]; unfold dist rdsP wOf; simp only [hmx]
  cases hasD (formOf x.f0) <;> cases hasD (formOf y.f0) <;> cases effOp x.f0 <;> cases effOp y.f0 <;> by_cases h : x.f1 = y.f1 <;>
    simp [h, dx, dy, show x.f1 ≠ -1 by omega, show y.f1 ≠ -1 by omega]
end Go.Den
end
section
-- the texts that this claim needs, out of this session's and its print's (wip/shrink.py)
namespace Go.Den
open Go Go.RowKit Go.Proofs Go.Proofs.YtibfkkjkahpobaaGreatW.PrintWords Go.Proofs.YtibfkkjkahpobaaGreat.PDag
@[reducible] def kE : K := .pair (.int .i64) (.pair (.int .i64) (.pair (.int .i64) .unit))
def f100 (x : S100) : kE.T := (x.f0, x.f1, x.f2, ())
theorem at24 (l : List S24) (i : Nat) (h : i < l.length) : (l.map f24).getD i (K.zero kIns) = f24 (J24 l i) := by
  rw [rd_at l i h, List.getD_eq_getElem?_getD, List.getElem?_map, List.getElem?_eq_getElem h]; rfl
theorem o45 (l : List S24) (hn : l.length ≤ 200) (ho : okA l) : CallStep Tryz.prog 45 [.one (.row 24 kIns (l.map f24))] [] (.one (.own 0)) [.row 100 kE ((edges l).map f100)] := by
  have hL : (l.map f24).length = l.length := List.length_map ..; have hfew := edges_few l hn; refine CallStep.intro' (n := 40) (n0 := 0) (rs := [.tmp 2]) tb_ok Tryz.func45 (by kernel_rfl) rfl rfl rfl rfl rfl fun cx hcx => ?_; refine W.sO tb_ok ?_; refine W.sO tb_ok ?_; refine W.seq ?_; refine W.sO tb_ok ?_; refine W.block (W.loop (fun p : Nat × List S100 => ⟨[(4, .one (.int .i64 p.1)), (3, .one (.own 0)), (0, .one (.row 24 kIns (l.map f24)))], [.row 100 kE (p.2.map f100)], 40⟩) (fun p => l.length - p.1) (fun p => p.1 ≤ l.length ∧ p.2 ++ edgesUp l p.1 (l.length - p.1) = edges l) (0, []) ⟨Nat.zero_le _, rfl⟩ (Le.to [1] hcx rfl ⟨rfl, rfl, rfl, rfl, rfl⟩) fun p hp => ?_); obtain ⟨i, acc⟩ := p; obtain ⟨hi, hacc⟩ := hp; simp only at hi hacc; refine W.seq ?_; refine W.sO tb_ok ?_; refine W.if_ _ rfl (fun e => W.skip ?_) (fun e => W.exit ?_)
  case refine_2 =>
    refine W.sO tb_ok ?_; have hi2 : i = l.length := by have := of_decide_eq_false e; omega
    subst hi2; rw [Nat.sub_self, edgesUp, List.append_nil] at hacc; subst hacc; exact W.ret ⟨trivial, [0], rfl, rfl, rfl⟩
  have hil : i < l.length := by have := of_decide_eq_true e; omega
  rw [show l.length - i = (l.length - (i + 1)) + 1 by omega, edgesUp_succ, ← List.append_assoc] at hacc; have hw : IntKind.i64.wrap ((i : Int) + 1) = ((i + 1 : Nat) : Int) := IntWalk.i64_in _ (by omega); refine W.seq (W.block ?_); refine W.sO tb_ok ?_; refine W.block (W.loop (fun q : Nat × List S100 => ⟨[(4, .one (.int .i64 i)), (5, .one (.int .i64 q.1)), (3, .one (.own 0)), (0, .one (.row 24 kIns (l.map f24)))], [.row 100 kE (q.2.map f100)], 40⟩) (fun q => l.length - q.1) (fun q => i < q.1 ∧ q.1 ≤ l.length ∧ q.2 ++ edgesSeg l i q.1 (l.length - q.1) = acc ++ edgesFrom l i) (i + 1, acc) ⟨Nat.lt_succ_self i, hil, rfl⟩ (Le.to [0] hcx rfl ⟨rfl, ?_, rfl, rfl, rfl, rfl⟩) fun q hq => ?_)
  · show S.ren _ (S.one (.int .i64 (IntKind.i64.wrap (↑i + 1)))) = _; rw [hw]; rfl
  obtain ⟨j, bcc⟩ := q; obtain ⟨hij, hj, hbcc⟩ := hq; simp only at hij hj hbcc; have hblen : bcc.length ≤ 40000 := by have h1 := congrArg List.length hbcc; have h2 := congrArg List.length hacc; simp only [List.length_append] at h1 h2; omega
  refine W.seq ?_; refine W.sO tb_ok ?_; refine W.if_ _ rfl (fun e => W.skip ?_) (fun e => W.exit ?_)
  case refine_2 =>
    have hj2 : j = l.length := by have := of_decide_eq_false e; omega
    subst hj2; rw [Nat.sub_self, edgesSeg, List.append_nil] at hbcc; subst hbcc; refine W.rO tb_ok ?_; refine ⟨(i + 1, acc ++ edgesFrom l i), ⟨hil, hacc⟩, Le.to [0] hcx rfl ⟨?_, rfl, rfl, rfl, rfl⟩, by show _ - (i + 1) < _ - i; omega⟩; show S.ren _ (S.one (.int .i64 (IntKind.i64.wrap (↑i + 1)))) = _; rw [hw]; rfl
  have ej : j < l.length := by have := of_decide_eq_true e; omega
  have hd := o81 (g24 ((l.map f24).getD i (K.zero kIns))) (g24 ((l.map f24).getD j (K.zero kIns))) (by rw [at24 l i (by omega)]; exact okA_L ho i (by omega)) (by rw [at24 l j ej]; exact okA_L ho j ej); have hdv : dist (g24 ((l.map f24).getD i (K.zero kIns))) (g24 ((l.map f24).getD j (K.zero kIns))) = dist (J24 l i) (J24 l j) := by rw [at24 l i (by omega), at24 l j ej]; rfl
  rw [hdv] at hd; rw [show l.length - j = (l.length - (j + 1)) + 1 by omega, edgesSeg, ← List.append_assoc] at hbcc; refine W.seq (W.block ?_); refine W.aO [10] tb_ok ?_; refine W.sO tb_ok ?_; have hb : rowB 24 ((bcc.map f100).length + 1) := by rw [List.length_map]; show _ * _ ≤ _; omega
  have hwj : IntKind.i64.wrap ((j : Int) + 1) = ((j + 1 : Nat) : Int) := IntWalk.i64_in _ (by omega); generalize dist (J24 l i) (J24 l j) = d at hbcc ⊢; refine W.if_ _ rfl (fun h => ?_) (fun h => W.skip ?_)
  · replace h := of_decide_eq_true h; rw [if_pos (by omega)] at hbcc; refine W.rO tb_ok ?_; refine W.rO tb_ok ?_; refine ⟨(j + 1, bcc ++ [⟨i, j, d⟩]), ⟨by show i < j + 1; omega, ej, hbcc⟩, Le.to [1] hcx rfl ⟨rfl, ?_, rfl, rfl, ?_, rfl⟩, by show _ - (j + 1) < _ - j; omega⟩
    · show S.ren _ (S.one (.int .i64 (IntKind.i64.wrap (↑j + 1)))) = _; rw [hwj]; rfl
    · rw [List.map_append]; rfl
  · replace h := of_decide_eq_false h; rw [if_neg (by omega), List.append_nil] at hbcc; refine W.rO tb_ok ?_; refine ⟨(j + 1, bcc), ⟨by show i < j + 1; omega, ej, hbcc⟩, Le.to [0] hcx rfl ⟨rfl, ?_, rfl, rfl, rfl, rfl⟩, by show _ - (j + 1) < _ - j; omega⟩
    · show S.ren _ (S.one (.int .i64 (IntKind.i64.wrap (↑j + 1)))) = _; rw [hwj]; rfl
end Go.Den
end
